/- The functions that Subst hands to each and walk. -/
import Derived.Test.YtlahmbhimhmoaaaVEnds
namespace Go.Proofs.Ytlahmbhimhmoaaa
set_option linter.unusedVariables false
set_option linter.unusedSimpArgs false
open Go.RowKit
open Go.Value renaming int → O, pointer → X
open Go.IntKind renaming i64 → S
open Option renaming none → Y
open Go.Lib renaming hid->aB
set_option maxHeartbeats 1000000
set_option maxRecDepth 100000
variable {x:Int}{px:Nat}
def F7(x:Int):AT (Int×Int):={ an:=fun _ _ _=>false,nx:=fun t v a=>if v-a=x then (wrap64 (t.1+1),max t.2 a) else t }
def LN(px F D:Nat)(x:Int)(w:OE)(t:Int×Int):Prop:=aW w px 3 #[O S x]/\aW w F 3 #[O S t.1]/\aW w D 3 #[O S t.2]
theorem wJ{F D:Nat}{m d v a G y:Int}{w:OE}(U:px≠F)(Z:px≠D)(I:F≠D)(jx:aW w px 3 #[O S x])(jt:aW w F 3 #[O S m])(z:aW w D 3 #[O S d])(h:v-a=x)(o:G=wrap64 (m+1))(s:y=max d a):
 aS (fun k=>k=F\/k=D) Y w ((w.setCell ⟨F,0,Y⟩ (O S G)).setCell ⟨D,0,Y⟩ (O S y))/\LN px F D x ((w.setCell ⟨F,0,Y⟩ (O S G)).setCell ⟨D,0,Y⟩ (O S y)) ((F7 x).nx (m,d) v a):=by
 subst o s;refine⟨((aS.refl _ _ w).setCell (p:=⟨F,0,Y⟩) (.inl rfl) _).setCell (p:=⟨D,0,Y⟩) (.inr rfl) _,?_⟩;simp only[F7];rw[LZ h];refine⟨(jx.far (p:=⟨F,0,Y⟩) U _).far (p:=⟨D,0,Y⟩) Z _,?_,?_⟩
 . have:=(jt.set_ 0 (O S (wrap64 (m+1)))).far (p:=⟨D,0,Y⟩) I (O S (max d a));simpa using this
 have:=(z.far (p:=⟨F,0,Y⟩) (Ne.symm I) (O S (wrap64 (m+1)))).set_ 0 (O S (max d a));simpa using this
theorem C8{F D H:Nat}(hx:px<H)(ht:F<H)(hd:D<H)(h1:px≠F)(h2:px≠D)(h3:F≠D):
 q9 Try.prog 102 #[X (some ⟨px,0,Y⟩),X (some ⟨F,0,Y⟩),X (some ⟨D,0,Y⟩)] (F7 x) (LN px F D x) (fun k=>k=F\/k=D) H:=by
 rintro w ⟨m,d⟩ v a hH ⟨jx,s,Z⟩ a8 a9 a3 a4;have cx:=jx.cell;have ct:=s.cell;have ft:=s.frozen;have cd:=Z.cell;have fd:=Z.frozen;have a7:px<w.heap.size:=aA;have a6:F<w.heap.size:=aA;have a5:D<w.heap.size:=aA;have a0:=Ne.symm h1;have a1:=Ne.symm h2;have a2:=Ne.symm h3;obtain⟨z,U,I⟩:=OK jx s Z;clear jx s Z;simp only at ct cd U I;show Calls Try.prog 102 #[O S v,O S a,X (some ⟨px,0,Y⟩),X (some ⟨F,0,Y⟩),X (some ⟨D,0,Y⟩)] w _;by_cases h:v-a=x
 . have hb:(v-a==x)=true:=by simp[h]
   have G:=aB h;clear h;go_in;go_wp2_with fail;all_goals
    go_ret;first
     | exact⟨rfl,wJ (y:=a) h1 h2 h3 z.o U.o I.o G.o rfl aA⟩
     | exact⟨rfl,wJ (y:=d) h1 h2 h3 z.o U.o I.o G.o rfl aA⟩
 have hb:(v-a==x)=false:=by simp[h]
 have G:=aB h;clear h;go_in;go_wp2_with fail;go_ret;refine⟨rfl,aS.refl _ _ _,?_⟩;simp only[F7];rw[aN G.o];exact⟨z.o,U.o,I.o⟩
def LT(px D:Nat)(x d:Int)(w:OE)(_:Unit):Prop:=aW w px 3 #[O S x]/\aW w D 3 #[O S d]
theorem C9{D H:Nat}{d:Int}(hx:px<H)(hd:D<H)(a7:0<=x)(a8:x<=1048577)(z:0<=d)(a0:d<=1000000000000):
 q9 Try.prog 103 #[X (some ⟨px,0,Y⟩),X (some ⟨D,0,Y⟩)] (zW fun v a=>decide (a<=v)&&decide (1048576<v-a+x+d)) (LT px D x d) (fun _=>False) H:=by
 rintro w t v a hH ⟨G,F⟩ a3 a4 Z s;have cx:=G.cell;have cd:=F.cell;have a2:px<w.heap.size:=aA;have a1:D<w.heap.size:=aA;obtain⟨U,I⟩:=OF G F;clear G F;show Calls Try.prog 103 #[O S v,O S a,X (some ⟨px,0,Y⟩),X (some ⟨D,0,Y⟩)] w _;by_cases h:a<=v
 . have a5:IntKind.i64.wrap (v-a+x)=v-a+x:=IntWalk.i64_in _ aA;have a6:IntKind.i64.wrap (v-a+x+d)=v-a+x+d:=IntWalk.i64_in _ aA;go_in;go_wp2_with fail;go_ret;exact⟨cU (by simp only[zW];simp[h]),aS.refl _ _ _,U.o,I.o⟩
 have hb:decide (a<=v)=false:=by simp;omega
 go_in;go_wp2_with fail;go_ret;exact⟨cU (by simp only[zW];simp;omega),aS.refl _ _ _,U.o,I.o⟩
structure KU where
 n:Nd
 a:List Nd
 k:Fo
def kH(u:KU)(x:Int):bT Unit where
 em:=fun _ n a=>if n.op=1/\n.a=x+a then (fX (x+a) 0).E1 0 () u.n u.a u.k else if n.op=1/\x+a<n.a then [⟨n.op,n.a-1,n.b⟩] else [n]
 nx:=fun _ _ _=>()
 ok:=fun _ _ _=>true
 dm:=fun _ n a=>n.op=1/\n.a=x+a->(fX (x+a) 0).G1 0 () u.n u.k=true
def J2(px D:Nat)(x:Int)(R:Nat->Prop)(A:OC)(nn c:Nat)(l:List Nd)(w:OE)(_:Unit):Prop:=aW w px 3 #[O S x]/\aW w D 29 #[.slice A nn c]/\a6 R w A nn c l
def J3(px D:Nat)(R:Nat->Prop)(k:Nat):Prop:=k=px\/k=D\/R k
theorem vR{F:Nat}{R:Nat->Prop}{A:OC}{nn c:Nat}{l:List Nd}{w w':OE}{s:Unit}(h:J2 px F x R A nn c l w s)(D:∀k,J3 px F R k->w'.heap[k]? = w.heap[k]?):J2 px F x R A nn c l w' s :=
 ⟨h.1.same (D _ (.inl rfl)),h.2.1.same (D _ (.inr (.inl rfl))),h.2.2.keep fun b G=>⟨G,fun o=>aP (D b (.inr (.inr G))) o⟩⟩
theorem lK{u:KU}{F:Nat}{R:Nat->Prop}{A:OC}{nn c:Nat}{l:List Nd}{base:Nat}{pan:List PanicEntry}{w w':OE}{s:Unit}{v G:Value}{o Z:List Nd}{n:Nd}{a:Int}(z:J2 px F x R A nn c l w s)(hk:∀k,v.ownBlock=some k->¬ J3 px F R k)(I:∀k,J3 px F R k->k<w.heap.size)
 (U:aS (fun _=>False) v.ownBlock w w') (D:bG w' base G (o++Z)) (he:(kH u x).em () n a=Z) (hn:dD v G w) :
 kW (kH u x) (J2 px F x R A nn c l) (fun _=>False) base pan w s v o n a (.returned G) w':=by
 refine .inl ⟨rfl,U,vR z (fun k h=>U.block k (I k h) (fun h=>h) (fun e=>hk k e.symm h)),_,rfl,?_,hn⟩;show bG w' base G (o++(kH u x).em () n a);rw[he];exact D
theorem DA{pu:Nat}{R:Nat->Prop}{A:OC}{nn c:Nat}{l:List Nd}{base H M:Nat}{pan:List PanicEntry}{u:KU}(d8:px<H)(d7:pu<H)(hR:∀b,R b->b<H)(hb:base<=H)(hM:M<=1000000000000)(e0:0<=x)(e1:x<=1048577)(b6:pp [false] l=some (.cons [] u.n u.a u.k .nil,[]))(b7:4*bS u.k<=1000000000000):
 tW Try.prog 104 #[X (some ⟨px,0,Y⟩),X (some ⟨pu,0,Y⟩)] (kH u x) (J2 px pu x R A nn c l) (J3 px pu R) (fun _=>False) base H pan M:=by
 intro w s v o n a hH hj a0 b1 a9 b0 d2 d3 a3;obtain⟨Av,cv,rfl⟩:=a0.slice;have b5:bR n.op n.a n.b=true:=by simp only[eU,ME]at a9;exact a9.1.1
 obtain⟨c9,d0⟩:=gQ b5;have b2:∀k,J3 px pu R k->k<w.heap.size:=fun k hk=>by
  rcases hk with h|h|h
  . omega
  . omega
  have:=hR k h;omega
 have cx:=hj.1.cell;have cu:=hj.2.1.cell;have d6:px<w.heap.size:=aA;have d5:pu<w.heap.size:=aA;have d4:base<=w.heap.size:=aA;obtain⟨i0,hi,b8,b9,c0⟩:=info_parts zZ;obtain⟨a4,a5,a6,a7,U,HJ,Z,I⟩:=OH hi b8 b9 c0 a0 hj b1 a3;obtain⟨a2,c1,c5,c6,HR⟩:=OG b2 b0 b6 b7 hR;clear hi b8 b9 c0 a0 hj b1 a9 b5 a3 b2 b0 b6 b7 hR;show Calls Try.prog 104 #[.slice Av o.length cv,.agg #[O S n.op,O S n.a,O S n.b],O S a,X (some ⟨px,0,Y⟩),X (some ⟨pu,0,Y⟩)] w _;have d9:IntKind.i64.wrap (x+a)=x+a:=IntWalk.i64_in _ aA;by_cases z:n.op=1;rotate_left
 . have c7:(n.op==1)=false:=by simp[z]
   have he:(kH u x).em () n a=[n]:=by
    show (if _ then _ else if _ then _ else _)=_;rw[aN (fun h=>z h.1),aN (fun h=>z h.1)]
   have hl:o.length+1<=1000000000000:=by have:=I.o;rw[he]at this;simp at this;omega
   have HE:=aB he;clear he z;go_in;go_wp2_with (at_builtin;refine bL rfl (cH (.tmp 47) (.tmp 49) 29 rfl base i0 Try.underlying29 a4.o a5.o a6.o a7.o (.slice Av o.length cv) o n (w.alloc (.cells #[O S n.op,O S n.a,O S n.b] 42)) aF aF (U.o.alloc _) _ aF aD aA aG ?_);intro A' c' w' F D)
   go_ret;exact lK HJ.o Z.o a2.o ((aS.of_below (aQ _ _)).trans (aS.of_grown D.grown) (fun g G=>.inl G)) F HE.o (fun g G=>(D.new g G).imp id (fun h=>by simp at h;omega))
 have c7:(n.op==1)=true:=by simp[z]
 by_cases h2:n.a=x+a
 . have c8:(n.a==x+a)=true:=by simp[h2]
   have he:(kH u x).em () n a=(fX (x+a) 0).E1 0 () u.n u.a u.k:=LZ ⟨z,h2⟩;have G:(fX (x+a) 0).G1 0 () u.n u.k=true:=c1.o ⟨z,h2⟩;have hl:o.length+((fX (x+a) 0).E1 0 () u.n u.a u.k).length<=1000000000000:=by have:=I.o;rw[he]at this;omega
   have HE:=aB he;have HG:=aB G;have HL:=aB hl;clear he G hl z h2;go_in;go_wp2_with fail;have a8:OB w (w.alloc (.cells #[O S n.op,O S n.a,O S n.b] 42)):=aQ _ _;refine (gS (R:=R) (base:=base) aG (fun b hb=>by have:=HR.o b hb;simp;omega) (HJ.o.2.2.keep fun b hb=>⟨hb,fun o=>aP (a8.block b (by have:=HR.o b hb;omega)) o⟩) (U.o.alloc _) (fun g G hr=>Z.o g G (.inr (.inr hr))) c5.o c6.o HL.o aA aA (MR 0) aA).mono ?_;rintro e w3 ⟨b3,(⟨_,v',rfl,a1,b4⟩|⟨G,_⟩)⟩
   . obtain⟨c2,c4,c3⟩:=OK b3 a1 b4;clear b3 a1 b4;go_wp2_with fail;go_ret;exact lK HJ.o Z.o a2.o (aS.over a8 c2.o (fun _ _ h=>h)) c4.o HE.o (fun g G=>(c3.o g G).imp id (fun h=>MO a8.size h))
   rw[HG.o]at G;cases G
 have c8:(n.a==x+a)=false:=by simp[h2]
 by_cases h3:x+a<n.a
 . have he:(kH u x).em () n a=[⟨n.op,n.a-1,n.b⟩]:=by
    show (if _ then _ else if _ then _ else _)=_;rw[aN (fun h=>h2 h.2),LZ ⟨z,h3⟩]
   have hl:o.length+1<=1000000000000:=by have:=I.o;rw[he]at this;simp at this;omega
   have HE:=aB he;clear he z h2;go_in;go_wp2_with (at_builtin;refine bL rfl (cH (.tmp 47) (.tmp 49) 29 rfl base i0 Try.underlying29 a4.o a5.o a6.o a7.o (.slice Av o.length cv) o ⟨n.op,n.a-1,n.b⟩ (w.alloc (.cells #[O S n.op,O S (n.a-1),O S n.b] 42)) aF aF (U.o.alloc _) _ aF aD aA aG ?_);intro A' c' w' F D)
   go_ret;exact lK HJ.o Z.o a2.o ((aS.of_below (aQ _ _)).trans (aS.of_grown D.grown) (fun g G=>.inl G)) F HE.o (fun g G=>(D.new g G).imp id (fun h=>by simp at h;omega))
 have d1:decide (x+a<n.a)=false:=by simp;omega
 have he:(kH u x).em () n a=[n]:=by
  show (if _ then _ else if _ then _ else _)=_;rw[aN (fun h=>h2 h.2),aN (fun h=>h3 h.2)]
 have hl:o.length+1<=1000000000000:=by have:=I.o;rw[he]at this;simp at this;omega
 have HE:=aB he;clear he z h2;go_in;go_wp2_with (at_builtin;refine bL rfl (cH (.tmp 47) (.tmp 49) 29 rfl base i0 Try.underlying29 a4.o a5.o a6.o a7.o (.slice Av o.length cv) o n (w.alloc (.cells #[O S n.op,O S n.a,O S n.b] 42)) aF aF (U.o.alloc _) _ aF aD aA aG ?_);intro A' c' w' F D)
 go_ret;exact lK HJ.o Z.o a2.o ((aS.of_below (aQ _ _)).trans (aS.of_grown D.grown) (fun g G=>.inl G)) F HE.o (fun g G=>(D.new g G).imp id (fun h=>by simp at h;omega))
end Go.Proofs.Ytlahmbhimhmoaaa
