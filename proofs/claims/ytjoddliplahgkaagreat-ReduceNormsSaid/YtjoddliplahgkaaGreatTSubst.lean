/- Merged: Subst1, Subst. -/
import Derived.Test.YtjoddliplahgkaaGreatTEnds
namespace Go.Proofs.YtjoddliplahgkaaGreat
set_option linter.unusedVariables false
set_option linter.unusedSimpArgs false
open Go.RowKit
open Go.Value renaming int → O, slice → Y, pointer → Z
open Go.IntKind renaming i64 → X
open Go.Obj renaming cells → I
open Option renaming none → D, some → U
section
open Go.Lib renaming hid->aB
set_option maxHeartbeats 1000000
set_option maxRecDepth 100000
def RR(x:Int):LT (Int×Int):={ an:=fun _ _ _=>false,nx:=fun t v a=>if v-a=x then (wrap64 (t.1+1),max t.2 a) else t }
def XC(h G F:Nat)(x:Int)(w:aAB)(t:Int×Int):Prop:=aT w h 3 #[O X x]/\aT w G 3 #[O X t.1]/\aT w F 3 #[O X t.2]
theorem F7{o G F:Nat}{x m d v a s y:Int}{w:aAB}(h1:o≠G)(h2:o≠F)(z:G≠F)(jx:aT w o 3 #[O X x])(jt:aT w G 3 #[O X m])(jd:aT w F 3 #[O X d])(h:v-a=x)(hm:s=wrap64 (m+1))(hy:y=max d a):
 aZ (fun k=>k=G\/k=F) D w ((w.setCell ⟨G,0,D⟩ (O X s)).setCell ⟨F,0,D⟩ (O X y))/\XC o G F x ((w.setCell ⟨G,0,D⟩ (O X s)).setCell ⟨F,0,D⟩ (O X y)) ((RR x).nx (m,d) v a):=by
 subst hm hy;refine⟨((aZ.refl _ _ w).setCell (p:=⟨G,0,D⟩) (.inl rfl) _).setCell (p:=⟨F,0,D⟩) (.inr rfl) _,?_⟩;simp only[RR];rw[XP h];refine⟨(jx.far (p:=⟨G,0,D⟩) h1 _).far (p:=⟨F,0,D⟩) h2 _,?_,?_⟩
 . have:=(jt.set_ 0 (O X (wrap64 (m+1)))).far (p:=⟨F,0,D⟩) z (O X (max d a));simpa using this
 have:=(jd.far (p:=⟨G,0,D⟩) (Ne.symm z) (O X (wrap64 (m+1)))).set_ 0 (O X (max d a));simpa using this
theorem N2{s G F H:Nat}{x:Int}(hx:s<H)(ht:G<H)(hd:F<H)(h1:s≠G)(h2:s≠F)(h3:G≠F):
 zC Tryz.prog 134 #[Z (U ⟨s,0,D⟩),Z (U ⟨G,0,D⟩),Z (U ⟨F,0,D⟩)] (RR x) (XC s G F x) (fun k=>k=G\/k=F) H:=by
 rintro w ⟨m,d⟩ v a hH ⟨jx,jt,jd⟩ a3 a4 a1 a2;have cx:=jx.cell;have ct:=jt.cell;have ft:=jt.frozen;have cd:=jd.cell;have fd:=jd.frozen;have a0:=Ne.symm h3;obtain⟨JX,JT,JD⟩:=aAF jx jt jd;clear jx jt jd;simp only at ct cd JT JD;show Calls Tryz.prog 134 #[O X v,O X a,Z (U ⟨s,0,D⟩),Z (U ⟨G,0,D⟩),Z (U ⟨F,0,D⟩)] w _;by_cases h:v-a=x
 . have hb:(v-a==x)=true:=by simp[h]
   have z:=aB h;clear h;go_in;go_wp2_with fail;all_goals
    go_ret;first
     | exact⟨rfl,F7 (y:=a) h1 h2 h3 JX.o JT.o JD.o z.o rfl aA⟩
     | exact⟨rfl,F7 (y:=d) h1 h2 h3 JX.o JT.o JD.o z.o rfl aA⟩
 have hb:(v-a==x)=false:=by simp[h]
 have z:=aB h;clear h;go_in;go_wp2_with fail;go_ret;refine⟨rfl,aZ.refl _ _ _,?_⟩;simp only[RR];rw[XN z.o];exact⟨JX.o,JT.o,JD.o⟩
def XJ(G F:Nat)(x d:Int)(w:aAB)(_:Unit):Prop:=aT w G 3 #[O X x]/\aT w F 3 #[O X d]
theorem N3{G F H:Nat}{x d:Int}(hx:G<H)(hd:F<H)(a8:0<=x)(a9:x<=1048577)(a2:0<=d)(a3:d<=1000000000000):
 zC Tryz.prog 135 #[Z (U ⟨G,0,D⟩),Z (U ⟨F,0,D⟩)] (KI fun v a=>decide (a<=v)&&decide (1048576<v-a+x+d)) (XJ G F x d) (fun _=>False) H:=by
 rintro w t v a hH ⟨z,s⟩ a4 a5 a0 a1;have cx:=z.cell;have cd:=s.cell;obtain⟨JX,JD⟩:=aAC z s;clear z s;show Calls Tryz.prog 135 #[O X v,O X a,Z (U ⟨G,0,D⟩),Z (U ⟨F,0,D⟩)] w _;by_cases h:a<=v
 . have a6:IntKind.i64.wrap (v-a+x)=v-a+x:=IntWalk.i64_in _ aA;have a7:IntKind.i64.wrap (v-a+x+d)=v-a+x+d:=IntWalk.i64_in _ aA;go_in;go_wp2_with fail;go_ret;exact⟨fS (by simp only[KI];simp[h]),aZ.refl _ _ _,JX.o,JD.o⟩
 have hb:decide (a<=v)=false:=by simp;omega
 go_in;go_wp2_with fail;go_ret;exact⟨fS (by simp only[KI];simp;omega),aZ.refl _ _ _,JX.o,JD.o⟩
structure Put where
 n:Nd
 a:List Nd
 k:Fo
def pS(u:Put)(x:Int):cZ Unit where
 em:=fun _ n a=>if n.op=1/\n.a=x+a then (jT (x+a) 0).E1 0 () u.n u.a u.k else if n.op=1/\x+a<n.a then [⟨n.op,n.a-1,n.b⟩] else [n]
 nx:=fun _ _ _=>()
 ok:=fun _ _ _=>true
 dm:=fun _ n a=>n.op=1/\n.a=x+a->(jT (x+a) 0).G1 0 () u.n u.k=true
def VH(G F:Nat)(x:Int)(R:Nat->Prop)(A:ZZ)(nn c:Nat)(l:List Nd)(w:aAB)(_:Unit):Prop:=aT w G 3 #[O X x]/\aT w F 29 #[Y A nn c]/\bF R w A nn c l
def VI(G F:Nat)(R:Nat->Prop)(k:Nat):Prop:=k=G\/k=F\/R k
theorem FA{z G:Nat}{x:Int}{R:Nat->Prop}{A:ZZ}{nn c:Nat}{l:List Nd}{w w':aAB}{s:Unit}(h:VH z G x R A nn c l w s)(F:∀k,VI z G R k->w'.heap[k]? = w.heap[k]?):VH z G x R A nn c l w' s :=
 ⟨h.1.same (F _ (.inl rfl)),h.2.1.same (F _ (.inr (.inl rfl))),h.2.2.keep fun b hb=>⟨hb,fun o=>aP (F b (.inr (.inr hb))) o⟩⟩
theorem rK{u:Put}{x:Int}{z G:Nat}{R:Nat->Prop}{A:ZZ}{nn c:Nat}{l:List Nd}{base:Nat}{pan:List PanicEntry}{w w':aAB}{s:Unit}{v v':Value}{o l':List Nd}{n:Nd}{a:Int}(hj:VH z G x R A nn c l w s)(hk:∀k,v.ownBlock=U k->¬ VI z G R k)(a0:∀k,VI z G R k->k<w.heap.size)
 (hm:aZ (fun _=>False) v.ownBlock w w') (F:bK w' base v' (o++l')) (he:(pS u x).em () n a=l') (hn:fX v v' w) :
 qN (pS u x) (VH z G x R A nn c l) (fun _=>False) base pan w s v o n a (.returned v') w':=by
 refine .inl ⟨rfl,hm,FA hj (fun k h=>hm.block k (a0 k h) (fun h=>h) (fun e=>hk k e.symm h)),_,rfl,?_,hn⟩;show bK w' base v' (o++(pS u x).em () n a);rw[he];exact F
theorem N4{px pu:Nat}{x:Int}{R:Nat->Prop}{A:ZZ}{nn c:Nat}{l:List Nd}{base H M:Nat}{pan:List PanicEntry}{u:Put}(e2:px<H)(e1:pu<H)(hR:∀b,R b->b<H)(hb:base<=H)(hM:M<=1000000000000)(e4:0<=x)(e5:x<=1048577)(c0:pp [false] l=U (.cons [] u.n u.a u.k .nil,[]))(c1:4*aY u.k<=1000000000000):
 DT Tryz.prog 137 #[Z (U ⟨px,0,D⟩),Z (U ⟨pu,0,D⟩)] (pS u x) (VH px pu x R A nn c l) (VI px pu R) (fun _=>False) base H pan M:=by
 intro w s v o n a hH hj a3 b5 b3 b4 d6 d7 a6;obtain⟨Av,cv,rfl⟩:=a3.slice;have b9:cD n.op n.a n.b=true:=by simp only[eW,YC]at b3;exact b3.1.1
 obtain⟨d3,d4⟩:=fZ b9;have b6:∀k,VI px pu R k->k<w.heap.size:=fun k hk=>by
  rcases hk with h|h|h
  . omega
  . omega
  have:=hR k h;omega
 have cx:=hj.1.cell;have cu:=hj.2.1.cell;have e0:px<w.heap.size:=aA;have d9:pu<w.heap.size:=aA;have d8:base<=w.heap.size:=aA;obtain⟨i0,hi,c2,c3,c4⟩:=info_parts infoN;obtain⟨a7,a9,b0,b1,a1,HJ,a2,a0⟩:=aAG hi c2 c3 c4 a3 hj b5 a6;obtain⟨a5,c5,c9,d0,HR⟩:=aAD b6 b4 c0 c1 hR;clear hi c2 c3 c4 a3 hj b5 b3 b9 a6 b6 b4 c0 c1 hR;show Calls Tryz.prog 137 #[Y Av o.length cv,.agg #[O X n.op,O X n.a,O X n.b],O X a,Z (U ⟨px,0,D⟩),Z (U ⟨pu,0,D⟩)] w _;have e3:IntKind.i64.wrap (x+a)=x+a:=IntWalk.i64_in _ aA;by_cases h1:n.op=1;rotate_left
 . have d1:(n.op==1)=false:=by simp[h1]
   have he:(pS u x).em () n a=[n]:=by
    show (if _ then _ else if _ then _ else _)=_;rw[XN (fun h=>h1 h.1),XN (fun h=>h1 h.1)]
   have hl:o.length+1<=1000000000000:=by have:=a0.o;rw[he]at this;simp at this;omega
   have HE:=aB he;clear he h1;go_in;go_wp2_with (at_builtin;refine a8 rfl (cM (.tmp 47) (.tmp 49) 29 rfl base i0 Tryz.underlying29 a7.o a9.o b0.o b1.o (Y Av o.length cv) o n (w.alloc (I #[O X n.op,O X n.a,O X n.b] 46)) aF aF (a1.o.alloc _) _ aF aD aA aG ?_);intro A' c' w' G F)
   go_ret;exact rK HJ.o a2.o a5.o ((aZ.of_below (aQ _ _)).trans (aZ.of_grown F.grown) (fun g z=>.inl z)) G HE.o (fun g z=>(F.new g z).imp id (fun h=>by simp at h;omega))
 have d1:(n.op==1)=true:=by simp[h1]
 by_cases h2:n.a=x+a
 . have d2:(n.a==x+a)=true:=by simp[h2]
   have he:(pS u x).em () n a=(jT (x+a) 0).E1 0 () u.n u.a u.k:=XP ⟨h1,h2⟩;have z:(jT (x+a) 0).G1 0 () u.n u.k=true:=c5.o ⟨h1,h2⟩;have hl:o.length+((jT (x+a) 0).E1 0 () u.n u.a u.k).length<=1000000000000:=by have:=a0.o;rw[he]at this;omega
   have HE:=aB he;have HG:=aB z;have HL:=aB hl;clear he z hl h1 h2;go_in;go_wp2_with fail;have b2:ZY w (w.alloc (I #[O X n.op,O X n.a,O X n.b] 46)):=aQ _ _;refine (kW (R:=R) (base:=base) aG (fun b hb=>by have:=HR.o b hb;simp;omega) (HJ.o.2.2.keep fun b hb=>⟨hb,fun o=>aP (b2.block b (by have:=HR.o b hb;omega)) o⟩) (a1.o.alloc _) (fun g z hr=>a2.o g z (.inr (.inr hr))) c9.o d0.o HL.o aA aA (YI 0) aA).mono ?_;rintro e w3 ⟨b7,(⟨_,v',rfl,a4,b8⟩|⟨z,_⟩)⟩
   . obtain⟨c6,c8,c7⟩:=aAF b7 a4 b8;clear b7 a4 b8;go_wp2_with fail;go_ret;exact rK HJ.o a2.o a5.o (aZ.over b2 c6.o (fun _ _ h=>h)) c8.o HE.o (fun g z=>(c7.o g z).imp id (fun h=>YE b2.size h))
   rw[HG.o]at z;cases z
 have d2:(n.a==x+a)=false:=by simp[h2]
 by_cases h3:x+a<n.a
 . have he:(pS u x).em () n a=[⟨n.op,n.a-1,n.b⟩]:=by
    show (if _ then _ else if _ then _ else _)=_;rw[XN (fun h=>h2 h.2),XP ⟨h1,h3⟩]
   have hl:o.length+1<=1000000000000:=by have:=a0.o;rw[he]at this;simp at this;omega
   have HE:=aB he;clear he h1 h2;go_in;go_wp2_with (at_builtin;refine a8 rfl (cM (.tmp 47) (.tmp 49) 29 rfl base i0 Tryz.underlying29 a7.o a9.o b0.o b1.o (Y Av o.length cv) o ⟨n.op,n.a-1,n.b⟩ (w.alloc (I #[O X n.op,O X (n.a-1),O X n.b] 46)) aF aF (a1.o.alloc _) _ aF aD aA aG ?_);intro A' c' w' G F)
   go_ret;exact rK HJ.o a2.o a5.o ((aZ.of_below (aQ _ _)).trans (aZ.of_grown F.grown) (fun g z=>.inl z)) G HE.o (fun g z=>(F.new g z).imp id (fun h=>by simp at h;omega))
 have d5:decide (x+a<n.a)=false:=by simp;omega
 have he:(pS u x).em () n a=[n]:=by
  show (if _ then _ else if _ then _ else _)=_;rw[XN (fun h=>h2 h.2),XN (fun h=>h3 h.2)]
 have hl:o.length+1<=1000000000000:=by have:=a0.o;rw[he]at this;simp at this;omega
 have HE:=aB he;clear he h1 h2;go_in;go_wp2_with (at_builtin;refine a8 rfl (cM (.tmp 47) (.tmp 49) 29 rfl base i0 Tryz.underlying29 a7.o a9.o b0.o b1.o (Y Av o.length cv) o n (w.alloc (I #[O X n.op,O X n.a,O X n.b] 46)) aF aF (a1.o.alloc _) _ aF aD aA aG ?_);intro A' c' w' G F)
 go_ret;exact rK HJ.o a2.o a5.o ((aZ.of_below (aQ _ _)).trans (aZ.of_grown F.grown) (fun g z=>.inl z)) G HE.o (fun g z=>(F.new g z).imp id (fun h=>by simp at h;omega))
end
section
open Go.Lib renaming hid->aB
set_option maxHeartbeats 2000000
set_option maxRecDepth 100000
theorem qA:∀(f:Nat)(G:List Bool)(l:List Nd)(x:Fo×List Nd),lS f G l=U x->dI x.1
 | 0,_,_,_,h=>by simp[lS]at h
 | _+1,[],l,x,h=>by simp only[lS,YT]at h;subst h;trivial
 | f+1,d::dr,l,x,h=>by
  simp only[lS,ZV]at h;obtain⟨p,z,h⟩:=h;split at h
  . cases h
  . split at h
    . rename_i F
      simp only[ZV]at h;obtain⟨q,hq,k,o,y,s,h⟩:=h;simp only[YT]at h;subst h;exact⟨F,qA f _ _ _ o,qA f _ _ _ s⟩
    cases h
theorem rI{F:List Bool}{l:List Nd}{x:Fo×List Nd}(h:pp F l=U x):dI x.1:=qA _ _ _ _ h
def BU(x:Int)(F G:Int):Nat->Int->Fo->Int
 | _,_,.nil=>0
 | j,a,.cons _ n _ k y=>(if n.op=1/\n.a-(a+aR F G j)=x then 1 else 0)+BU x n.op n.b 0 (a+aR F G j) k+BU x F G (j+1) a y
def OY(x:Int)(F G:Int):Nat->Int->Int->Fo->Int
 | _,_,d,.nil=>d
 | j,a,d,.cons _ n _ k y=>OY x F G (j+1) a (OY x n.op n.b 0 (a+aR F G j) (if n.op=1/\n.a-(a+aR F G j)=x then max d (a+aR F G j) else d) k) y
def qR(x:Int)(n:Nd)(k:Fo):Int:=(if n.op=1/\n.a=x then 1 else 0)+BU x n.op n.b 0 0 k
def MO(x:Int)(n:Nd)(k:Fo):Int:=OY x n.op n.b 0 0 0 k
theorem BV(x:Int)(G h:Int):∀(j:Nat)(a:Int)(F:Fo),0<=BU x G h j a F/\BU x G h j a F<=aY F
 | _,_,.nil=>by simp[BU,aY]
 | j,a,.cons p n at' k y=>by
  have o:=BV x n.op n.b 0 (a+aR G h j) k;have s:=BV x G h (j+1) a y;simp only[BU,aY];split<;>omega
theorem Q9(x:Int)(m d:Int)(n:Nd)(a:Int)(o:0<=m)(s:m<=1000000000000):(uQ (RR x)).nx (false,(m,d)) n a=(false,(m+(if n.op=1/\n.a-a=x then 1 else 0),if n.op=1/\n.a-a=x then max d a else d)):=by
 have G:wrap64 (m+1)=m+1:=by unfold wrap64;omega
 simp only[uQ,RR];by_cases h:n.op=1
 . by_cases F:n.a-a=x
   . simp[h,F,G]
   simp[h,F]
 simp[h]
theorem Q8(x:Int)(G h:Int):∀(j:Nat)(a m d:Int)(F:Fo),0<=m->m+aY F<=1000000000000->(uQ (RR x)).S G h j a (false,(m,d)) F=(false,(m+BU x G h j a F,OY x G h j a d F))
 | _,_,m,d,.nil,_,_=>by simp[cZ.S,BU,OY]
 | j,a,m,d,.cons p n at' k y,o,s=>by
  simp only[aY]at s;have z:=BV x n.op n.b 0 (a+aR G h j) k;rw[cZ.S_cons,cZ.S1,Q9 x m d n _ o aA];rw[Q8 x n.op n.b 0 _ _ _ k (by split<;>omega) (by split<;>omega)];rw[Q8 x G h (j+1) a _ _ y (by split<;>omega) (by split<;>omega)];simp only[BU,OY,ZB,true_and,and_true];omega
theorem O5(x:Int)(n:Nd)(k:Fo)(h:aY k<=10000):(zS (RR x) (0,0) n k).2=(qR x n k,MO x n k):=by
 have hz:(0:Int)<=(if n.op=1/\n.a=x then (1:Int) else 0)/\(if n.op=1/\n.a=x then (1:Int) else 0)<=1:=by split<;>omega
 have e:n.a-0=n.a:=aA;rw[zS,cZ.S1,Q9 x 0 0 n 0 aA aA,e,Q8 x _ _ _ _ _ _ _ aA aA];have F:(if n.op=1/\n.a=x then max (0:Int) 0 else 0)=0:=by split<;>rfl
 rw[F];simp only[qR,MO,Int.zero_add]
theorem G7(x:Int)(G h:Int)(o:∀j:Int,0<=aR G h j/\aR G h j<=4):∀(j:Nat)(a d:Int)(F:Fo),dI F->0<=a->0<=d->0<=OY x G h j a d F/\OY x G h j a d F<=max d (a+4*aY F)
 | _,_,d,.nil,_,ha,hd=>by simp only[OY,aY];omega
 | j,a,d,.cons p n at' k y,hok,ha,hd=>by
  have z:=o j;have s:=G7 x n.op n.b (fun j=>dY hok.1 j) 0 (a+aR G h j) (if n.op=1/\n.a-(a+aR G h j)=x then max d (a+aR G h j) else d) k hok.2.1 aA (by split<;>omega);have h2:=G7 x G h o (j+1) a (OY x n.op n.b 0 (a+aR G h j) (if n.op=1/\n.a-(a+aR G h j)=x then max d (a+aR G h j) else d) k) y hok.2.2 ha s.1;have h3:(if n.op=1/\n.a-(a+aR G h j)=x then max d (a+aR G h j) else d)<=max d (a+aR G h j):=by split<;>omega
  simp only[OY,aY];omega
theorem OZ{x:Int}{n:Nd}{k:Fo}(F:eW n=true)(G:dI k):0<=MO x n k/\MO x n k<=4*aY k:=by
 have:=G7 x n.op n.b (fun j=>dY F j) 0 0 0 k G (YI _) (YI _);unfold MO;omega
theorem CX(u:Put)(x:Int)(G h:Int):∀(j:Nat)(a:Int)(F:Fo),((pS u x).E G h j a () F).length<=(row F).length*((u.n::(u.a++row u.k)).length+1)
 | _,_,.nil=>by simp[cZ.E,row]
 | j,a,.cons p n at' k y=>by
  rw[cZ.E_cons,cZ.E1];have z:=CX u x n.op n.b 0 (a+aR G h j) k;have h2:=CX u x G h (j+1) a y;have h3:((pS u x).em () n (a+aR G h j)).length<=(u.n::(u.a++row u.k)).length+1:=by
   simp only[pS];split
   . rw[wT];omega
   split<;>simp
  have e:∀s:Unit,s=():=fun _=>rfl;rw[e ((pS u x).nx () n (a+aR G h j)),e ((pS u x).S1 (a+aR G h j) () n k)];simp only[XX,row,YA]at z h2 h3 ⊢;have a0:1<=u.a.length+(row u.k).length+1+1:=aA;generalize u.a.length+(row u.k).length+1+1=q at *;generalize (row k).length=b at *;generalize (row y).length=c at *;have o:(p.length+(at'.length+(b+c)+1))*q=p.length*q+(at'.length*q+(b*q+c*q)+q):=by
   rw[Nat.add_mul,Nat.add_mul,Nat.add_mul,Nat.add_mul,Nat.one_mul]
  have e2:p.length<=p.length*q/\at'.length<=at'.length*q:=⟨Nat.le_mul_of_pos_right _ aA,Nat.le_mul_of_pos_right _ aA⟩;rw[o];omega
def tF(t u:List Nd)(x:Int):List Nd×Int :=
 match pp [false] t,pp [false] u with
 | some (.cons _ n a k _,_),U (.cons _ un ua uk _,_) =>
  if 0<qR x n k/\nI (fun v b=>decide (b<=v)&&decide (1048576<v-b+x+MO x n k)) 0 un uk=true then ([],6)
  else if 4096<(t.length:Int)+qR x n k*((u.length:Int)-1) then ([],9)
  else ((pS ⟨un,ua,uk⟩ x).E1 0 () n a k,0)
 | _,_=>([],0)
def jP(t u:List Nd)(at_:Int):List Nd×Int :=
 if a6 t=0 then (if a6 u=0 then (if at_<0 then ([],1) else tF t u (min at_ 1048577)) else ([],a6 u)) else ([],a6 t)
def xZ(t u:List Nd)(x:Int):Prop :=
 match pp [false] t,pp [false] u with
 | some (.cons _ n _ k _,_),U (.cons _ un ua uk _,_)=>(pS ⟨un,ua,uk⟩ x).D1 0 () n k
 | _,_=>True
theorem N5{A B:ZZ}{nn c mm d:Nat}{t u:List Nd}{w:aAB}(ht:aX w A nn c t)(hu:aX w B mm d u)(at_:Int)(h:a6 t≠0\/a6 u≠0\/at_<0):
 Calls Tryz.prog 113 #[Y A nn c,Y B mm d,O X at_] w (lP (jP t u at_) w):=by
 have s:=bS w (I #[Y B mm d] 29) (I #[O X at_] 3);have a1:=ht.below s;by_cases hs:a6 t=0;rotate_left
 . have b2:(a6 t != 0)=true:=by simp[hs]
   have hr:jP t u at_=([],a6 t):=by unfold jP;rw[XN hs]
   obtain⟨HR,F,a2⟩:=aAF hr s a1;clear hr hs h s a1 hu ht;go_in;go_wp2_with fail;refine (cR a2.o).mono ?_;rintro e w2 ⟨rfl,G⟩;go_wp2_with fail;go_ret2;exact dJ (F.o.trans (G.mono F.o.size)) HR.o
 have b2:(a6 t != 0)=false:=by simp[hs]
 have a5:aT ((w.alloc (I #[Y B mm d] 29)).alloc (I #[O X at_] 3)) w.heap.size 29 #[Y B mm d]:=(aT.new _ _ _).alloc _;have a3:aT ((w.alloc (I #[Y B mm d] 29)).alloc (I #[O X at_] 3)) (w.heap.size+1) 3 #[O X at_]:=aT.new' aD;by_cases a0:a6 u=0
 . have b0:(a6 u != 0)=false:=by simp[a0]
   have h3:at_<0:=by rcases h with h|h|h<;>first|exact absurd hs h|exact absurd a0 h|exact h
   have hr:jP t u at_=([],1):=by unfold jP;rw[XP hs,XP a0,XP h3]
   obtain⟨HR,F,a2,HU,a7,a9⟩:=aAH hr s a1 hu a5 a3;clear hr hs a0 h s a1 hu ht a5 a3;go_in;go_wp2_with fail;refine (cR a2.o).mono ?_;rintro e w2 ⟨rfl,G⟩;have z:=F.o.trans (G.mono F.o.size);have c0:=(a7.o.below G aG).cell;have b1:=a9.o.below G aD;have a8:=aB b1;clear b1;go_wp2_with fail;refine (cR (HU.o.below z)).mono ?_;rintro e w3 ⟨rfl,a4⟩;have c1:=(a8.o.below a4 a8.o.lt).cell;go_wp2_with fail;go_ret2;exact dJ (z.trans (a4.mono z.size)) HR.o
 have b0:(a6 u != 0)=true:=by simp[a0]
 have hr:jP t u at_=([],a6 u):=by unfold jP;rw[XP hs,XN a0]
 obtain⟨HR,F,a2,HU,a7⟩:=aAD hr s a1 hu a5;clear hr hs a0 h s a1 hu ht a5 a3;go_in;go_wp2_with fail;refine (cR a2.o).mono ?_;rintro e w2 ⟨rfl,G⟩;have z:=F.o.trans (G.mono F.o.size);have c0:=(a7.o.below G aG).cell;go_wp2_with fail;refine (cR (HU.o.below z)).mono ?_;rintro e w3 ⟨rfl,a4⟩;go_wp2_with fail;go_ret2;exact dJ (z.trans (a4.mono z.size)) HR.o
section
variable {A B : ZZ}{nn c mm d : Nat}{t u : List Nd}{w w3 : aAB}{n un : Nd}{ats ua : List Nd}{k uk : Fo}{x : Int}
theorem F0(ht:aX w A nn c t)(a3:pp [false] t=U (.cons [] n ats k .nil,[]))(a1:t=n::(ats++row k))(a7:aY k<=4096)(hl:t.length<=4096)(hb:ZY w w3)(hu:aT w3 w.heap.size 29 #[Y B mm d]){z:Value}(hx:aT w3 (w.heap.size+1) 3 #[z])(y:Int)(hy:y=x):
 Calls Tryz.prog 127 #[Y A nn c,.func (.func 134) #[] #[Z (U ⟨w.heap.size+1,0,D⟩),Z (U ⟨w3.heap.size,0,D⟩),Z (U ⟨w3.heap.size+1,0,D⟩)]]
  (((w3.setCell ⟨w.heap.size+1,0,D⟩ (O X y)).alloc (I #[O X 0] 3)).alloc (I #[O X 0] 3)) fun e s=>(∃b,e=.returned (.bool b))/\ZY w s/\aT s w.heap.size 29 #[Y B mm d]/\aT s (w.heap.size+1) 3 #[O X x]/\aT s w3.heap.size 3 #[O X (qR x n k)]/\aT s (w3.heap.size+1) 3 #[O X (MO x n k)]:=by
 subst hy;have a8:=hx.lt;have G:ZY w (((w3.setCell ⟨w.heap.size+1,0,D⟩ (O X y)).alloc (I #[O X 0] 3)).alloc (I #[O X 0] 3)) :=
  ((hb.setCell (p:=⟨w.heap.size+1,0,D⟩) aD _).alloc (by simp[World.setCell];omega) _).alloc (by simp[World.setCell];omega) _
 have a6:aT (((w3.setCell ⟨w.heap.size+1,0,D⟩ (O X y)).alloc (I #[O X 0] 3)).alloc (I #[O X 0] 3)) (w.heap.size+1) 3 #[O X y]:=by
  have:=((hx.set_ 0 (O X y)).alloc (I #[O X 0] 3)).alloc (I #[O X 0] 3);simpa using this
 have a5:=((hu.far (p:=⟨w.heap.size+1,0,D⟩) aD (O X y)).alloc (I #[O X 0] 3)).alloc (I #[O X 0] 3);have a4:aT (((w3.setCell ⟨w.heap.size+1,0,D⟩ (O X y)).alloc (I #[O X 0] 3)).alloc (I #[O X 0] 3)) w3.heap.size 3 #[O X 0]:=(aT.new' (by simp[World.setCell])).alloc _;have a2:aT (((w3.setCell ⟨w.heap.size+1,0,D⟩ (O X y)).alloc (I #[O X 0] 3)).alloc (I #[O X 0] 3)) (w3.heap.size+1) 3 #[O X 0]:=aT.new' (by simp[World.setCell]);have a0:=vS (RR y) 0 (false,(0,0)) n ats k;rw[<-a1]at a0;refine (vT (T:=RR y) (J:=XC (w.heap.size+1) w3.heap.size (w3.heap.size+1) y) (K:=fun b=>b=w.heap.size+1\/b=w3.heap.size\/b=w3.heap.size+1) (S:=fun b=>b=w3.heap.size\/b=w3.heap.size+1) (R:=(· < w.heap.size)) (t:=(0,0)) (fun b F=>⟨?_,?_⟩) (ht.keep fun b F=>⟨F,fun o=>aP (G.block b F) o⟩) (fun b F=>?_) (fun b F=>.inr F)
  (fun w w' t h hk=>⟨h.1.same (hk _ (.inl rfl)),h.2.1.same (hk _ (.inr (.inl rfl))),h.2.2.same (hk _ (.inr (.inr rfl)))⟩) (fun _ _=>by kernel_rfl) (N2 (by simp[World.setCell];omega) (by simp[World.setCell]<;>omega) (by simp[World.setCell]<;>omega) aA aA aA) ⟨a6,a4,a2⟩ a3 aA aA).mono ?_
 . have:=G.size;omega
 . omega
 . simp[World.setCell];omega
 rintro e s ⟨he,hm,h⟩;rw[O5 y n k aA]at h;refine⟨⟨_,he⟩,G.trans (hm.to_below G.size (fun b F=>by omega) (fun g hg=>by cases hg)),a5.moved hm aA aD,h.1,h.2.1,h.2.2⟩
theorem U4(hu:aX w B mm d u)(a2:pp [false] u=U (.cons [] un ua uk .nil,[]))(z:u=un::(ua++row uk))(a5:aY uk<=4096)(hl:u.length<=4096)(a3:0<=x)(a4:x<=1048577){G:Int}(a0:0<=G)(a1:G<=1000000000000){pd:Nat}(hb:ZY w w3)(hx:aT w3 (w.heap.size+1) 3 #[O X x])(hd:aT w3 pd 3 #[O X G])(a6:w.heap.size+1<pd):
 Calls Tryz.prog 127 #[Y B mm d,.func (.func 135) #[] #[Z (U ⟨w.heap.size+1,0,D⟩),Z (U ⟨pd,0,D⟩)]] w3 (qL (nI (fun v b=>decide (b<=v)&&decide (1048576<v-b+x+G)) 0 un uk) w3):=by
 have s:=vS (KI fun v b=>decide (b<=v)&&decide (1048576<v-b+x+G)) 0 (false,()) un ua uk;rw[<-z]at s;refine (vT (T:=KI fun v b=>decide (b<=v)&&decide (1048576<v-b+x+G)) (J:=XJ (w.heap.size+1) pd x G) (K:=fun b=>b=w.heap.size+1\/b=pd) (S:=fun _=>False) (R:=(· < w.heap.size)) (t:=()) (fun b F=>⟨by have:=hb.size;omega,fun h=>h⟩) (hu.keep fun b F=>⟨F,fun o=>aP (hb.block b F) o⟩) (fun b F=>?_) (fun b F=>F.elim)
  (fun w w' t hj hk=>⟨hj.1.same (hk _ (.inl rfl)),hj.2.same (hk _ (.inr rfl))⟩) (fun _ _=>by kernel_rfl) (N3 hx.lt hd.lt a3 a4 a0 a1) ⟨hx,hd⟩ a2 aA aA).mono ?_
 . rcases F with h|h
   . subst h;exact hx.lt
   subst h;exact hd.lt
 rintro e w5 ⟨rfl,hm,_⟩;exact⟨fS (EI _ _ _),hm.to_below (XU _) (fun _ h=>h.elim) (fun g hg=>by cases hg)⟩
theorem F5(ht:aX w A nn c t)(a7:pp [false] t=U (.cons [] n ats k .nil,[]))(a5:t=n::(ats++row k))(b5:aY k<=4096)(hl:t.length<=4096)(hu:aX w B mm d u)(a8:pp [false] u=U (.cons [] un ua uk .nil,[]))(a2:u=un::(ua++row uk))(b3:aY uk<=4096)(b6:u.length<=4096)(a9:0<=x)(b0:x<=1048577)(hD:(pS ⟨un,ua,uk⟩ x).D1 0 () n k)
 (hb:ZY w w3) (a1:aT w3 w.heap.size 29 #[Y B mm d]) (hx:aT w3 (w.heap.size+1) 3 #[O X x]) :
 Calls Tryz.prog 136 #[Y A nn c,Y D 0 0,.func (.func 137) #[] #[Z (U ⟨w.heap.size+1,0,D⟩),Z (U ⟨w.heap.size,0,D⟩)]] w3 fun e w'=>ZY w w'/\∃A' m' c',e=.returned (.tuple #[Y A' m' c',O X 0])/\bK w' w.heap.size (Y A' m' c') ((pS ⟨un,ua,uk⟩ x).E1 0 () n ats k):=by
 have a4:((pS ⟨un,ua,uk⟩ x).E1 0 () n ats k).length<=1000000000000:=by
  have h1:=CX ⟨un,ua,uk⟩ x 0 0 0 0 (.cons [] n ats k .nil);rw[cZ.E_cons]at h1;have e0:aR 0 0 ((0:Nat):Int)=0:=by decide
  rw[e0]at h1;simp only[YQ,YO,cZ.E,YP]at h1;have h2:(row (.cons [] n ats k .nil)).length=t.length:=by rw[a5];simp[row]
  have h3:(un::(ua++row uk)).length=u.length:=by rw[<-a2]
  rw[h2,h3]at h1;have h4:t.length*(u.length+1)<=4096*4097:=Nat.mul_le_mul hl aA;omega
 have hG:∀(a3 pb:Int)(j:Nat)(a:Int)(F:Fo),(pS ⟨un,ua,uk⟩ x).G a3 pb j a () F=true:=by
  intro a3 pb j a F
  induction F generalizing a3 pb j a with
  | nil=>rfl
  | cons p n b4 k y b1 b2=>rw[cZ.G_cons,cZ.G1,b1,b2];rfl
 have a6:nK (pS ⟨un,ua,uk⟩ x) 137 #[Z (U ⟨w.heap.size+1,0,D⟩),Z (U ⟨w.heap.size,0,D⟩)] (VH (w.heap.size+1) w.heap.size x (· < w.heap.size) B mm d u) (VI (w.heap.size+1) w.heap.size (· < w.heap.size)) (fun _=>False) w.heap.size 6 1000000000000 (· < w.heap.size) w3 A nn c t (Y D 0 0) () []:=by
  refine⟨hb.size,fun b h=>⟨XT h hb.size,fun h=>h⟩,fun b h=>?_,fun b h=>h.elim,fun w w' s hj hk=>FA hj hk,XU _,fun _ _=>by kernel_rfl,N4 hx.lt a1.lt (fun b h=>XT h hb.size) hb.size (XU _) a9 b0 a8 (by show 4*aY uk<=_;omega),ht.keep fun b z=>⟨z,fun o=>aP (hb.block b z) o⟩,bK.nil _ _,⟨hx,a1,hu.keep fun b z=>⟨z,fun o=>aP (hb.block b z) o⟩⟩,fun g hg=>by simp[Value.ownBlock]at hg⟩;rcases h with h|h|h
  . subst h;exact hx.lt
  . subst h;exact a1.lt
  exact XT h hb.size
 refine (yG a6 a7 aA hD (by simpa using a4)).mono ?_;rintro e w5 ⟨hm,(⟨_,_,v',rfl,a0,_⟩|⟨hg,_⟩)⟩
 . obtain⟨A',c',rfl⟩:=a0.slice;exact⟨hb.trans (hm.to_below hb.size (fun _ h=>h.elim) (fun g hg=>by simp[Value.ownBlock]at hg)),_,_,_,rfl,a0⟩
 rw[cZ.G1,hG]at hg;cases hg
end
theorem xJ{r:List Nd×Int}{l:List Nd}{w w':aAB}{A:ZZ}{m c:Nat}(G:ZY w w')(h:r=(l,0))(F:bK w' w.heap.size (Y A m c) l):lP r w (.returned (.tuple #[Y A m c,O X 0])) w':=by
 subst h;exact⟨G,_,_,_,rfl,F⟩
theorem JQ{A B:ZZ}{nn c mm d:Nat}{t u:List Nd}{w:aAB}(ht:aX w A nn c t)(hu:aX w B mm d u)(at_:Int)(hs:a6 t=0)(d7:a6 u=0)(h0:0<=at_)(x:Int)(hx:(at_<=1048577/\at_=x)\/(1048577<at_/\1048577=x))(hD:xZ t u x):
 Calls Tryz.prog 113 #[Y A nn c,Y B mm d,O X at_] w (lP (tF t u x) w):=by
 obtain⟨hl,n,ats,k,a9,c7,g2⟩:=eN hs;obtain⟨g4,un,ua,uk,b9,a0,c8⟩:=eN d7;have d8:0<=x:=aA;have d9:x<=1048577:=aA;have hr:tF t u x=if 0<qR x n k/\nI (fun v b=>decide (b<=v)&&decide (1048576<v-b+x+MO x n k)) 0 un uk=true then ([],6)
  else if 4096<(nn:Int)+qR x n k*((mm:Int)-1) then ([],9)
  else ((pS ⟨un,ua,uk⟩ x).E1 0 () n ats k,0):=by
  unfold tF;rw[a9,b9,<-ht.len,<-hu.len]
 have e9:(pS ⟨un,ua,uk⟩ x).D1 0 () n k:=by
  unfold xZ at hD;rw[a9,b9]at hD;exact hD
 have h3:=rI a9;obtain⟨c5,c6,_⟩:=h3;have g8:=OZ (x:=x) c5 c6;have g7:=BV x n.op n.b 0 0 k;have f6:0<=qR x n k/\qR x n k<=4097:=by unfold qR;split<;>omega
 have g9:1<=mm/\mm<=4096:=by
  have h1:=congrArg List.length a0;rw[hu.len]at h1;simp only[YA]at h1;have:=hu.len;omega
 have i5:nn<=4096:=by have:=ht.len;omega
 obtain⟨f7,f8⟩:=f6;obtain⟨h5,h6⟩:=g9;obtain⟨f9,g0⟩:=g8;have h4:0<=qR x n k*((mm:Int)-1)/\qR x n k*((mm:Int)-1)<=4097*4096:=⟨Int.mul_nonneg f7 aA,Int.mul_le_mul f8 aA aA aA⟩;obtain⟨h7,h8⟩:=h4;have d3:=bS w (I #[Y B mm d] 29) (I #[O X at_] 3);have g3:=ht.below d3;have i6:(a6 t != 0)=false:=by simp[hs]
 have h9:(a6 u != 0)=false:=by simp[d7]
 have i2:decide (at_<0)=false:=by simp;omega
 have f5:aT ((w.alloc (I #[Y B mm d] 29)).alloc (I #[O X at_] 3)) w.heap.size 29 #[Y B mm d]:=(aT.new _ _ _).alloc _;have c4:aT ((w.alloc (I #[Y B mm d] 29)).alloc (I #[O X at_] 3)) (w.heap.size+1) 3 #[O X at_]:=aT.new' aD;obtain⟨HR,e3,g6,HT,HU,g5,e5,b5⟩:=aAG hr d3 g3 ht hu f5 c4 a9;obtain⟨d2,a1,z,b3,a5,b4,d1,HD⟩:=aAG b9 c7 a0 g2 c8 hl g4 e9;have g1:MO x n k<=1000000000000:=aA;have c2:IntKind.i64.wrap (qR x n k*((mm:Int)-1))=qR x n k*((mm:Int)-1):=IntWalk.i64_in _ aA;have c3:IntKind.i64.wrap ((nn:Int)+qR x n k*((mm:Int)-1))=(nn:Int)+qR x n k*((mm:Int)-1):=IntWalk.i64_in _ aA;obtain⟨e6,e7⟩:=aAC c2 c3;clear hr hs d7 d3 g3 hu ht f5 c4 a9 b9 c7 a0 g2 c8 hl g4 hD e9 c5 c6 g7 c2 c3 g0;rcases hx with⟨f0,e0⟩|⟨f0,e0⟩;all_goals
  have e8:=aB e0;clear e0;go_in;go_wp2_with fail;refine (cR g6.o).mono ?_;rintro e w2 ⟨rfl,b6⟩;have b7:=e3.o.trans (b6.mono e3.o.size);have b0:=g5.o.below b6 aG;have b1:=e5.o.below b6 aD;have c0:=b0.cell;obtain⟨B0,B1⟩:=aAC b0 b1;clear b0 b1;go_wp2_with fail;refine (cR (HU.o.below b7)).mono ?_;rintro e w3 ⟨rfl,b8⟩;have b0:=B0.o.below b8 B0.o.lt;have b1:=B1.o.below b8 B1.o.lt;have c1:=b1.cell;have f1:=b1.frozen;have f2:=b7.trans (b8.mono b7.size);have i3:w.heap.size+1<w3.heap.size:=b1.lt;obtain⟨e1,e2,e4⟩:=aAF b0 b1 f2;clear b0 b1 f2 b8 b7 b6 c0;go_wp2_with fail;first
   | refine (F0 HT.o b5.o a1.o b3.o b4.o e4.o e1.o e2.o at_ e8.o).mono ?_
   | refine (F0 HT.o b5.o a1.o b3.o b4.o e4.o e1.o e2.o 1048577 e8.o).mono ?_
  rintro e w5 ⟨⟨b,rfl⟩,f3,u5,x5,t5,d5⟩;have ct:=t5.cell;have cu:=u5.cell;obtain⟨a3,U5,X5,D5,T5⟩:=aAD f3 u5 x5 d5 t5;clear f3 u5 x5 t5 d5 c1 f1;by_cases hm:0<qR x n k;rotate_left
  . have i4:decide (0<qR x n k)=false:=by simpa using hm
    have HM:=aB hm;clear hm;have c2:=e6.o;have c3:=e7.o;by_cases F:4096<(nn:Int)+qR x n k*((mm:Int)-1)
    . have G:=aB F;go_wp2_with fail;go_ret2;exact dJ a3.o (by rw[HR.o,XN (fun h=>by have h1:=HM.o;have h2:=h.1;omega),XP G.o])
    have d4:decide (4096<(nn:Int)+qR x n k*((mm:Int)-1))=false:=by simpa using F
    have G:=aB F;clear F;go_wp2_with fail;refine (F5 HT.o b5.o a1.o b3.o b4.o HU.o d2.o z.o a5.o d1.o d8 d9 HD.o a3.o U5.o X5.o).mono ?_;rintro e w7 ⟨a7,A',m',c',rfl,s⟩;have a4:=aB s;have d0:=aB a7;clear s a7;go_wp2_with fail;go_ret2;exact xJ d0.o (by rw[HR.o,XN (fun h=>by have h1:=HM.o;have h2:=h.1;omega),XN (by have:=G.o;omega)]) a4.o
  go_wp2_with fail;refine (U4 HU.o d2.o z.o a5.o d1.o d8 d9 f9 g1 a3.o X5.o D5.o aA).mono ?_;rintro e w6 ⟨rfl,a2⟩;have i0:=(T5.o.below a2 T5.o.lt).cell;have i1:=(U5.o.below a2 U5.o.lt).cell;have f4:=a3.o.trans (a2.mono a3.o.size);obtain⟨U6,X6,c9⟩:=aAF (U5.o.below a2 U5.o.lt) (X5.o.below a2 X5.o.lt) f4;clear ct cu a2 f4;by_cases d6:nI (fun v b=>decide (b<=v)&&decide (1048576<v-b+x+MO x n k)) 0 un uk=true
  . obtain⟨b2,HM⟩:=aAC d6 hm;go_wp2_with fail;go_ret2;exact dJ c9.o (by rw[HR.o,XP ⟨HM.o,b2.o⟩])
  have a8:nI (fun v b=>decide (b<=v)&&decide (1048576<v-b+x+MO x n k)) 0 un uk=false:=by simpa using d6
  have b2:=aB a8;rw[a8];clear d6 a8;have c2:=e6.o;have c3:=e7.o;by_cases F:4096<(nn:Int)+qR x n k*((mm:Int)-1)
  . have G:=aB F;go_wp2_with fail;go_ret2;exact dJ c9.o (by rw[HR.o,XN (fun h=>by rw[b2.o]at h;cases h.2),XP G.o])
  have d4:decide (4096<(nn:Int)+qR x n k*((mm:Int)-1))=false:=by simpa using F
  have G:=aB F;clear F;go_wp2_with fail;refine (F5 HT.o b5.o a1.o b3.o b4.o HU.o d2.o z.o a5.o d1.o d8 d9 HD.o c9.o U6.o X6.o).mono ?_;rintro e w7 ⟨a7,A',m',c',rfl,s⟩;have a4:=aB s;have d0:=aB a7;clear s a7;go_wp2_with fail;go_ret2;exact xJ d0.o (by rw[HR.o,XN (fun h=>by rw[b2.o]at h;cases h.2),XN (by have:=G.o;omega)]) a4.o
theorem BA{A B:ZZ}{nn c mm d:Nat}{t u:List Nd}{w:aAB}(ht:aX w A nn c t)(s:aX w B mm d u)(at_:Int)(z:a6 t=0->a6 u=0->0<=at_->xZ t u (min at_ 1048577)):
 Calls Tryz.prog 113 #[Y A nn c,Y B mm d,O X at_] w (lP (jP t u at_) w):=by
 by_cases h:a6 t≠0\/a6 u≠0\/at_<0
 . exact N5 ht s at_ h
 have F:a6 t=0:=Classical.not_not.1 fun x=>h (.inl x);have G:a6 u=0:=Classical.not_not.1 fun x=>h (.inr (.inl x));have o:0<=at_:=Int.not_lt.1 fun x=>h (.inr (.inr x));have hr:jP t u at_=tF t u (min at_ 1048577):=by unfold jP;rw[XP F,XP G,XN aA]
 rw[hr];exact JQ ht s at_ F G o _ aA (z F G o)
end
end Go.Proofs.YtjoddliplahgkaaGreat
