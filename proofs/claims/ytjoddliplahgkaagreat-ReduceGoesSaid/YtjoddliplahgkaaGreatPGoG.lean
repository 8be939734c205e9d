/- The reference's Go: a tree one step on. -/
import Derived.Test.YtjoddliplahgkaaGreatPGoO
import Derived.Test.YtjoddliplahgkaaGreatPRefTerm
namespace Go.Proofs.YtjoddliplahgkaaGreat
set_option linter.unusedVariables false
set_option linter.unusedSimpArgs false
open Go.RowKit
open Go.Value renaming int → O, slice → Y, agg → J
open Go.IntKind renaming i64 → S
open Go.Obj renaming cells → Z
open Option renaming none → I
open Go.Lib renaming hid->aB
set_option maxHeartbeats 4000000
set_option maxRecDepth 100000
theorem sT {b:Bk} {free:Int} {w:World} {A:Option Addr} {n c:Nat} {l:List Nd} {x:TT} (h:aY w A n c l) (hl:l=aW x) (hx:bR b free x):Calls Tryz.prog 44 #[Y A n c] w (fun e w'=>Below w.heap.size w w'/\∃t:iE,e=.returned (.tuple #[J (bH t x.1),.bool true])/\dX (fJ w w') w' t x):=by
 refine (nR h).mono ?_;rintro e w' ⟨hb,hh⟩;have a0:cP l=x:=by rw[hl];exact uZ hx
 rcases hh with⟨h3,_⟩ | ⟨xs,n,ats,k,rfl,ht,a1,_⟩
 · have:=hx.rt.shape;rw[<-hl] at this;exact absurd this h3
 have e:cP l=(n,ats,k):=by unfold cP;rw[a1]
 rw[a0] at e;rw[e];obtain⟨t,e1,e2⟩:=NY (x:=(n,ats,k)) ht;exact⟨hb,t,by rw[e1],e2⟩
def RI (r:s9) (y:TT) (is:Bool) (err:Int):Prop:=(r=.no/\is=false/\err=0)\/(r=.bad/\is=true/\err=9)\/(r=.yes y/\is=true/\err=0)
def DN (R:Nat->Prop) (w:World) (r:s9) (e:Ending) (w':World):Prop:=Below w.heap.size w w'/\∃(t:iE) (y:TT) (is:Bool) (err:Int),e=.returned (.tuple #[J (bH t y.1),.bool is,O S err])/\dX (bB R w w') w' t y/\RI r y is err
theorem dR {w:World} {g:Nat} {c0 c1 c2 c3 c4 c5:Value} {tmps:Array Value} (h:aS w g 85 #[c0,c1,c2,c3,c4,c5]) (ht:tmps.getD 6 undef=.pointer (some ⟨g,0,I⟩)) :
 (results Tryz.f45 tmps).run Tryz.prog w=.ok (.tuple #[J #[c0,c1,c2,c3,c4,c5],tmps.getD 7 undef,tmps.getD 8 undef]) w:=by
 have hc:=h.cell;have a0:tmps[6]?.getD undef=.pointer (some ⟨g,0,I⟩):=by rw[<-ht];simp
 simp[results,Tryz.results45,go_sem,a0,hc]
theorem qW {R:Nat->Prop} {w V W:World} {g:Nat} {t:iE} {y:TT} {is:Bool} {err:Int} {r:s9} (hR:∀b,R b->b<w.heap.size) (hg0:w.heap.size<=g) (hg1:g<V.heap.size) (hb:Below w.heap.size w W) (ht:dX (bB R V W) W t y) (hq:RI r y is err) :
 DN R w r (.returned (.tuple #[J (bH t y.1),.bool is,O S err])) ((((((W.setCell ⟨g,0,I⟩ (O S y.1.op)).setCell ⟨g,1,I⟩ (O S y.1.a)).setCell ⟨g,2,I⟩ (O S y.1.b)).setCell ⟨g,3,I⟩ (Y t.Ak t.nk t.ck)).setCell ⟨g,4,I⟩ (Y t.Aa t.na t.ca)).setCell ⟨g,5,I⟩ (Y t.Af t.nf t.cf)):=by
 obtain⟨h1,ys,h2,h3⟩:=qG hR hg0 hg1 hb ht;injection h2 with h2;injection h2 with h2;refine⟨h1,t,y,is,err,rfl,?_,hq⟩;have:ys=[O S y.1.op,O S y.1.a,O S y.1.b,Y t.Ak t.nk t.ck,Y t.Aa t.na t.ca,Y t.Af t.nf t.cf]:=by
  have:=congrArg Array.toList h2;simpa using this.symm
 rw[this] at h3;exact h3
theorem eW:∀(L:List TT),L.length<=bT L
 | []=>Nat.le_refl _
 | a::r=>by have:=eW r;simp only[bT,List.length_cons];omega
structure DP (w V0:World) (BK X:Array Value) (W:World):Prop where
 bel:Below w.heap.size w W
 sz:V0.heap.size<=W.heap.size
 bk:aS W w.heap.size 26 BK
 x:aS W (w.heap.size+1) 85 X
 r:aS W (w.heap.size+1+1) 85 #[O S 0,O S 0,O S 0,Y I 0 0,Y I 0 0,Y I 0 0]
theorem DP.below {w V0 W W':World} {BK X:Array Value} (h:DP w V0 BK X W) (hb:Below W.heap.size W W'):DP w V0 BK X W':=⟨h.bel.trans (hb.mono h.bel.size),Nat.le_trans h.sz hb.size,h.bk.below hb h.bk.lt,h.x.below hb h.x.lt,h.r.below hb h.r.lt⟩
def KU (v:bO) (b:Bk) (w0:World) (cA:Option Addr) (cn cc:Nat) (cv:List (List Nd)) (gas:Nat):Prop:=∀(w:World) (R:Nat->Prop) (t:iE) (x:TT),bX w v b->jI (· < w.heap.size) w cA cn cc cv->(∀q,R q->q<w.heap.size)->dX R w t x->bR b (cv.length:Int) x->bI x<gas->Calls Tryz.prog 45 #[J #[O S b.vars,Y v.Ao v.no v.co,Y v.Ae v.ne v.ce,O S b.nat,Y v.Ap v.np v.cp],Y cA cn cc,J (bH t x.1)] w (DN R w (iF b cv gas (bU x)))
theorem J4 {v:bO} {b:Bk} {w0:World} {cA:Option Addr} {cn cc:Nat} {cv:List (List Nd)} (hr:bP b=0) (hcx:fR b cv) {gas:Nat} (IH:KU v b w0 cA cn cc cv gas) {w:World} {R:Nat->Prop} {t:iE} {x:TT} (hbk:bX w v b) (hctx:jI (· < w.heap.size) w cA cn cc cv) (hR:∀q,R q->q<w.heap.size) (ht:dX R w t x) (hx:bR b (cv.length:Int) x) (hsz:bI x<gas+1) (hop:(bU x).1.1.op ≠ 1/\(bU x).1.1.op ≠ 5/\(bU x).1.1.op ≠ 7/\(bU x).1.1.op ≠ 8/\(bU x).1.1.op ≠ 11/\(bU x).1.1.op ≠ 12) :
 Calls Tryz.prog 45 #[J #[O S b.vars,Y v.Ao v.no v.co,Y v.Ae v.ne v.ce,O S b.nat,Y v.Ap v.np v.cp],Y cA cn cc,J (bH t x.1)] w (DN R w (iF b cv (gas+1) (bU x))):=by
 obtain⟨res,a0⟩ : ∃r,r=iF b cv (gas+1) (bU x):=⟨_,rfl⟩;rw[<-a0];have a9:=kI hx;have a1:=dJ hx;have a2:bI x<=4096:=hx.few;have a5:=(a7 w (Z #[O S b.vars,Y v.Ao v.no v.co,Y v.Ae v.ne v.ce,O S b.nat,Y v.Ap v.np v.cp] 26) (Z (bH t x.1) 85)).alloc aH (Z #[O S 0,O S 0,O S 0,Y I 0 0,Y I 0 0,Y I 0 0] 85);have a4:=aB (eC (fun q hq=>Nat.lt_of_lt_of_le (hR q hq) a5.size) (ht.below hR a5) hx.rt);obtain⟨⟨⟨ho,ha,hb⟩,c2,hk⟩,L,c5⟩ : ∃F L,bU x=(F,L):=⟨_,_,rfl⟩;rw[c5] at a4 a0 a9 a1 hop;unfold DM at a4;simp only at a4 hop;have b3:DP w (((w.alloc (Z #[O S b.vars,Y v.Ao v.no v.co,Y v.Ae v.ne v.ce,O S b.nat,Y v.Ap v.np v.cp] 26)).alloc (Z (bH t x.1) 85)).alloc (Z #[O S 0,O S 0,O S 0,Y I 0 0,Y I 0 0,Y I 0 0] 85)) #[O S b.vars,Y v.Ao v.no v.co,Y v.Ae v.ne v.ce,O S b.nat,Y v.Ap v.np v.cp] (bH t x.1) (((w.alloc (Z #[O S b.vars,Y v.Ao v.no v.co,Y v.Ae v.ne v.ce,O S b.nat,Y v.Ap v.np v.cp] 26)).alloc (Z (bH t x.1) 85)).alloc (Z #[O S 0,O S 0,O S 0,Y I 0 0,Y I 0 0,Y I 0 0] 85)):=⟨a5,Nat.le_refl _,((aS.new _ _ _).alloc _).alloc _,(aS.new' aD).alloc _,aS.new' aD⟩;have b6:dX (bB R (((w.alloc (Z #[O S b.vars,Y v.Ao v.no v.co,Y v.Ae v.ne v.ce,O S b.nat,Y v.Ap v.np v.cp] 26)).alloc (Z (bH t x.1) 85)).alloc (Z #[O S 0,O S 0,O S 0,Y I 0 0,Y I 0 0,Y I 0 0] 85)) (((w.alloc (Z #[O S b.vars,Y v.Ao v.no v.co,Y v.Ae v.ne v.ce,O S b.nat,Y v.Ap v.np v.cp] 26)).alloc (Z (bH t x.1) 85)).alloc (Z #[O S 0,O S 0,O S 0,Y I 0 0,Y I 0 0,Y I 0 0] 85))) (((w.alloc (Z #[O S b.vars,Y v.Ao v.no v.co,Y v.Ae v.ne v.ce,O S b.nat,Y v.Ap v.np v.cp] 26)).alloc (Z (bH t x.1) 85)).alloc (Z #[O S 0,O S 0,O S 0,Y I 0 0,Y I 0 0,Y I 0 0] 85)) t x:=ht.keep fun q hq=>⟨Or.inl hq,fun o=>a5.cell (p:=⟨q,o,I⟩) (hR q hq)⟩;have b5:(((w.alloc (Z #[O S b.vars,Y v.Ao v.no v.co,Y v.Ae v.ne v.ce,O S b.nat,Y v.Ap v.np v.cp] 26)).alloc (Z (bH t x.1) 85)).alloc (Z #[O S 0,O S 0,O S 0,Y I 0 0,Y I 0 0,Y I 0 0] 85)).heap.size=w.heap.size+3:=by simp
 obtain⟨V0,b1⟩ : ∃V0,V0=((w.alloc (Z #[O S b.vars,Y v.Ao v.no v.co,Y v.Ae v.ne v.ce,O S b.nat,Y v.Ap v.np v.cp] 26)).alloc (Z (bH t x.1) 85)).alloc (Z #[O S 0,O S 0,O S 0,Y I 0 0,Y I 0 0,Y I 0 0] 85):=⟨_,rfl⟩;rw[<-b1] at a5 a4 b3 b6 b5;obtain⟨kl,c0⟩ : ∃k,k=L.length:=⟨_,rfl⟩;have c6:L.length<=4096:=by
  have h3:=a1;have h4:bT L<=4096:=by
   have:dK (((⟨ho,ha,hb⟩:Nd),c2,hk),L)=bI ((⟨ho,ha,hb⟩:Nd),c2,hk)+bT L:=rfl;omega
  exact Nat.le_trans (eW L) h4
 rw[<-c0] at a4 c6;have b9:=aB a0;have c9:=aB a1;have d0:=aB a2;have b2:=aB b3;have a3:=aB b6;have b7:=aB b5;have HR:=aB hR;have HX:=aB hx;have HT:=aB ht;have d2:=aB hsz;clear c0 a0 a9 a1 a2 b3 b6 b5 hR hbk hctx hx IH hcx hr ht hsz a5;obtain⟨⟨xo,xa,xb⟩,xat,xk⟩:=x;obtain⟨Ak,nk,ck,Aa,na,ca,Af,nf,cf⟩:=t;simp only at b2 a3 b1;show Calls Tryz.prog 45 #[J #[O S b.vars,Y v.Ao v.no v.co,Y v.Ae v.ne v.ce,O S b.nat,Y v.Ap v.np v.cp],Y cA cn cc,J #[O S xo,O S xa,O S xb,Y Ak nk ck,Y Aa na ca,Y Af nf cf]] w _;go_in;go_upto_region 1 with fail
 rw[<-b1];clear b1;have c3:=aS.cell b2.o.x;go_wp2_with fail;refine (a4.o).mono ?_;rintro e w4 ⟨a8,⟨Ck,pk,ek,Ca,pa,ea,Cf,pf,ef⟩,KB,kd,rfl,c4,c1,b4⟩;have a6:=a7 w4 (Z #[O S ho,O S ha,O S hb,Y Ck pk ek,Y Ca pa ea,Y Cf pf ef] 85) (Z #[O S ho,O S ha,O S hb] 46);have b0:=aB ((b2.o.below a8).below a6);have c7:Hid (aS ((w4.alloc (Z #[O S ho,O S ha,O S hb,Y Ck pk ek,Y Ca pa ea,Y Cf pf ef] 85)).alloc (Z #[O S ho,O S ha,O S hb] 46)) (w4.heap.size+1) 46 #[O S ho,O S ha,O S hb]):=aB (aS.new' aD);have b8:Hid (dX (bB R V0 ((w4.alloc (Z #[O S ho,O S ha,O S hb,Y Ck pk ek,Y Ca pa ea,Y Cf pf ef] 85)).alloc (Z #[O S ho,O S ha,O S hb] 46))) ((w4.alloc (Z #[O S ho,O S ha,O S hb,Y Ck pk ek,Y Ca pa ea,Y Cf pf ef] 85)).alloc (Z #[O S ho,O S ha,O S hb] 46)) ⟨Ak,nk,ck,Aa,na,ca,Af,nf,cf⟩ ((⟨xo,xa,xb⟩:Nd),xat,xk)):=aB (a3.o.keep fun q hq=>⟨hq.to (Nat.le_refl _) (Nat.le_trans a8.size a6.size),fun o=>(a8.trans (a6.mono a8.size)).cell (p:=⟨q,o,I⟩) (by
  rcases hq with hq | hq
  · have:=HR.o _ hq;have:=b7.o;show q<V0.heap.size;omega
  exact hq.2)⟩)
 have c8:Hid (dM (bB R V0 ((w4.alloc (Z #[O S ho,O S ha,O S hb,Y Ck pk ek,Y Ca pa ea,Y Cf pf ef] 85)).alloc (Z #[O S ho,O S ha,O S hb] 46))) ((w4.alloc (Z #[O S ho,O S ha,O S hb,Y Ck pk ek,Y Ca pa ea,Y Cf pf ef] 85)).alloc (Z #[O S ho,O S ha,O S hb] 46)) KB kl kd (gH L)):=aB (c1.keep fun q hq=>⟨hq.to (Nat.le_refl _) a6.size,fun o=>a6.cell (p:=⟨q,o,I⟩) (by
  rcases hq with hq | hq
  · have:=HR.o _ hq;have:=b7.o;have:=a8.size;show q<w4.heap.size;omega
  exact hq.2)⟩)
 clear a8 a6 c4 c1 b4 a4 b2 a3 c3;have HN:Hid (res=.no):=aB (by
  rw[b9.o];refine nI ?_ ?_
  · unfold bW;simp only;rw[if_neg aA,if_neg aA,if_neg aA,if_neg aA,if_neg aA];simp
  unfold cS;simp only;rw[if_neg aA,if_neg aA])
 have d5:(ho==5)=false:=by rw[beq_eq_false_iff_ne];omega
 have d7:(ho==7)=false:=by rw[beq_eq_false_iff_ne];omega
 have d1:(ho==1)=false:=by rw[beq_eq_false_iff_ne];omega
 have d8:(ho==8)=false:=by rw[beq_eq_false_iff_ne];omega
 have d11:(ho==11)=false:=by rw[beq_eq_false_iff_ne];omega
 have d12:(ho==12)=false:=by rw[beq_eq_false_iff_ne];omega
 have zx:=aS.cell b0.o.x;have zr:=aS.cell b0.o.r;have zf:=aS.frozen b0.o.r;have zn:=aS.cell c7.o;clear hop;go_wp2_with fail;refine bodyPost_ret (v:=.tuple #[J #[O S xo,O S xa,O S xb,Y Ak nk ck,Y Aa na ca,Y Af nf cf],.bool false,O S 0]) ?_ rfl ?_
 · exact dR (g:=w.heap.size+1+1) (cJ b0.o.r _ _ _ _ _ _) aD
 exact qW (V:=V0) (t:=⟨Ak,nk,ck,Aa,na,ca,Af,nf,cf⟩) (y:=((⟨xo,xa,xb⟩:Nd),xat,xk)) HR.o aA (by have:=b7.o;omega) b0.o.bel b8.o (.inl ⟨HN.o,rfl,rfl⟩)
theorem J3 {v:bO} {b:Bk} {w0:World} {cA:Option Addr} {cn cc:Nat} {cv:List (List Nd)} (hr:bP b=0) (hcx:fR b cv) {gas:Nat} (IH:KU v b w0 cA cn cc cv gas) {w:World} {R:Nat->Prop} {t:iE} {x:TT} (hbk:bX w v b) (hctx:jI (· < w.heap.size) w cA cn cc cv) (hR:∀q,R q->q<w.heap.size) (ht:dX R w t x) (hx:bR b (cv.length:Int) x) (hsz:bI x<gas+1) (hop:(bU x).1.1.op=8) :
 Calls Tryz.prog 45 #[J #[O S b.vars,Y v.Ao v.no v.co,Y v.Ae v.ne v.ce,O S b.nat,Y v.Ap v.np v.cp],Y cA cn cc,J (bH t x.1)] w (DN R w (iF b cv (gas+1) (bU x))):=by
 obtain⟨res,a0⟩ : ∃r,r=iF b cv (gas+1) (bU x):=⟨_,rfl⟩;rw[<-a0];have a4:=kI hx;have a3:=dJ hx;have a1:bI x<=4096:=hx.few;have b1:=(a7 w (Z #[O S b.vars,Y v.Ao v.no v.co,Y v.Ae v.ne v.ce,O S b.nat,Y v.Ap v.np v.cp] 26) (Z (bH t x.1) 85)).alloc aH (Z #[O S 0,O S 0,O S 0,Y I 0 0,Y I 0 0,Y I 0 0] 85);have b0:=aB (eC (fun q hq=>Nat.lt_of_lt_of_le (hR q hq) b1.size) (ht.below hR b1) hx.rt);obtain⟨⟨⟨ho,ha,hb⟩,c8,hk⟩,L,f2⟩ : ∃F L,bU x=(F,L):=⟨_,_,rfl⟩;rw[f2] at b0 a0 a4 a3 hop;unfold DM at b0;simp only at b0 hop;have b9:DP w (((w.alloc (Z #[O S b.vars,Y v.Ao v.no v.co,Y v.Ae v.ne v.ce,O S b.nat,Y v.Ap v.np v.cp] 26)).alloc (Z (bH t x.1) 85)).alloc (Z #[O S 0,O S 0,O S 0,Y I 0 0,Y I 0 0,Y I 0 0] 85)) #[O S b.vars,Y v.Ao v.no v.co,Y v.Ae v.ne v.ce,O S b.nat,Y v.Ap v.np v.cp] (bH t x.1) (((w.alloc (Z #[O S b.vars,Y v.Ao v.no v.co,Y v.Ae v.ne v.ce,O S b.nat,Y v.Ap v.np v.cp] 26)).alloc (Z (bH t x.1) 85)).alloc (Z #[O S 0,O S 0,O S 0,Y I 0 0,Y I 0 0,Y I 0 0] 85)):=⟨b1,Nat.le_refl _,((aS.new _ _ _).alloc _).alloc _,(aS.new' aD).alloc _,aS.new' aD⟩;have d0:dX (bB R (((w.alloc (Z #[O S b.vars,Y v.Ao v.no v.co,Y v.Ae v.ne v.ce,O S b.nat,Y v.Ap v.np v.cp] 26)).alloc (Z (bH t x.1) 85)).alloc (Z #[O S 0,O S 0,O S 0,Y I 0 0,Y I 0 0,Y I 0 0] 85)) (((w.alloc (Z #[O S b.vars,Y v.Ao v.no v.co,Y v.Ae v.ne v.ce,O S b.nat,Y v.Ap v.np v.cp] 26)).alloc (Z (bH t x.1) 85)).alloc (Z #[O S 0,O S 0,O S 0,Y I 0 0,Y I 0 0,Y I 0 0] 85))) (((w.alloc (Z #[O S b.vars,Y v.Ao v.no v.co,Y v.Ae v.ne v.ce,O S b.nat,Y v.Ap v.np v.cp] 26)).alloc (Z (bH t x.1) 85)).alloc (Z #[O S 0,O S 0,O S 0,Y I 0 0,Y I 0 0,Y I 0 0] 85)) t x:=ht.keep fun q hq=>⟨Or.inl hq,fun o=>b1.cell (p:=⟨q,o,I⟩) (hR q hq)⟩;have c9:(((w.alloc (Z #[O S b.vars,Y v.Ao v.no v.co,Y v.Ae v.ne v.ce,O S b.nat,Y v.Ap v.np v.cp] 26)).alloc (Z (bH t x.1) 85)).alloc (Z #[O S 0,O S 0,O S 0,Y I 0 0,Y I 0 0,Y I 0 0] 85)).heap.size=w.heap.size+3:=by simp
 obtain⟨V0,b5⟩ : ∃V0,V0=((w.alloc (Z #[O S b.vars,Y v.Ao v.no v.co,Y v.Ae v.ne v.ce,O S b.nat,Y v.Ap v.np v.cp] 26)).alloc (Z (bH t x.1) 85)).alloc (Z #[O S 0,O S 0,O S 0,Y I 0 0,Y I 0 0,Y I 0 0] 85):=⟨_,rfl⟩;rw[<-b5] at b1 b0 b9 d0 c9;obtain⟨kl,e4⟩ : ∃k,k=L.length:=⟨_,rfl⟩;have f5:L.length<=4096:=by
  have h4:bT L<=4096:=by
   have:dK (((⟨ho,ha,hb⟩:Nd),c8,hk),L)=bI ((⟨ho,ha,hb⟩:Nd),c8,hk)+bT L:=rfl;omega
  exact Nat.le_trans (eW L) h4
 rw[<-e4] at b0 f5;have d3:=aB a0;have d9:=aB a4;have g3:=aB a3;have g6:=aB a1;have b8:=aB b9;have a9:=aB d0;have b6:=aB c9;have HR:=aB hR;have f0:=aB hbk;have HX:=aB hx;have g1:=aB hr;have HT:=aB ht;have g7:=aB hsz;clear e4 a0 a4 a3 a1 b9 d0 c9 hR hbk hctx hx IH hcx hr ht hsz b1;obtain⟨⟨xo,xa,xb⟩,xat,xk⟩:=x;obtain⟨Ak,nk,ck,Aa,na,ca,Af,nf,cf⟩:=t;simp only at b8 a9 b5;show Calls Tryz.prog 45 #[J #[O S b.vars,Y v.Ao v.no v.co,Y v.Ae v.ne v.ce,O S b.nat,Y v.Ap v.np v.cp],Y cA cn cc,J #[O S xo,O S xa,O S xb,Y Ak nk ck,Y Aa na ca,Y Af nf cf]] w _;go_in;go_upto_region 1 with fail
 rw[<-b5];clear b5;have f1:=aS.cell b8.o.x;go_wp2_with fail;refine (b0.o).mono ?_;rintro e w4 ⟨a6,⟨Ck,pk,ek,Ca,pa,ea,Cf,pf,ef⟩,KB,kd,rfl,e2,e5,c4⟩;have a2:=a7 w4 (Z #[O S ho,O S ha,O S hb,Y Ck pk ek,Y Ca pa ea,Y Cf pf ef] 85) (Z #[O S ho,O S ha,O S hb] 46);have b2:=aB ((b8.o.below a6).below a2);have g5:Hid (aS ((w4.alloc (Z #[O S ho,O S ha,O S hb,Y Ck pk ek,Y Ca pa ea,Y Cf pf ef] 85)).alloc (Z #[O S ho,O S ha,O S hb] 46)) w4.heap.size 85 #[O S ho,O S ha,O S hb,Y Ck pk ek,Y Ca pa ea,Y Cf pf ef]):=aB ((aS.new _ _ _).alloc _);have f7:Hid (aS ((w4.alloc (Z #[O S ho,O S ha,O S hb,Y Ck pk ek,Y Ca pa ea,Y Cf pf ef] 85)).alloc (Z #[O S ho,O S ha,O S hb] 46)) (w4.heap.size+1) 46 #[O S ho,O S ha,O S hb]):=aB (aS.new' aD);have f8:Hid (dX (bB R V0 ((w4.alloc (Z #[O S ho,O S ha,O S hb,Y Ck pk ek,Y Ca pa ea,Y Cf pf ef] 85)).alloc (Z #[O S ho,O S ha,O S hb] 46))) ((w4.alloc (Z #[O S ho,O S ha,O S hb,Y Ck pk ek,Y Ca pa ea,Y Cf pf ef] 85)).alloc (Z #[O S ho,O S ha,O S hb] 46)) ⟨Ak,nk,ck,Aa,na,ca,Af,nf,cf⟩ ((⟨xo,xa,xb⟩:Nd),xat,xk)):=aB (a9.o.keep fun q hq=>⟨hq.to (Nat.le_refl _) (Nat.le_trans a6.size a2.size),fun o=>(a6.trans (a2.mono a6.size)).cell (p:=⟨q,o,I⟩) (by
  rcases hq with hq | hq
  · have:=HR.o _ hq;have:=b6.o;show q<V0.heap.size;omega
  exact hq.2)⟩)
 have f9:Hid (dX R ((w4.alloc (Z #[O S ho,O S ha,O S hb,Y Ck pk ek,Y Ca pa ea,Y Cf pf ef] 85)).alloc (Z #[O S ho,O S ha,O S hb] 46)) ⟨Ck,pk,ek,Ca,pa,ea,Cf,pf,ef⟩ ((⟨ho,ha,hb⟩:Nd),c8,hk)):=aB (e2.keep fun q hq=>⟨hq,fun o=>a2.cell (p:=⟨q,o,I⟩) (by have:=HR.o _ hq;have:=b6.o;have:=a6.size;show q<w4.heap.size;omega)⟩);have d6:Hid (dM (bB R V0 ((w4.alloc (Z #[O S ho,O S ha,O S hb,Y Ck pk ek,Y Ca pa ea,Y Cf pf ef] 85)).alloc (Z #[O S ho,O S ha,O S hb] 46))) ((w4.alloc (Z #[O S ho,O S ha,O S hb,Y Ck pk ek,Y Ca pa ea,Y Cf pf ef] 85)).alloc (Z #[O S ho,O S ha,O S hb] 46)) KB kl kd (gH L)):=aB (e5.keep fun q hq=>⟨hq.to (Nat.le_refl _) a2.size,fun o=>a2.cell (p:=⟨q,o,I⟩) (by
  rcases hq with hq | hq
  · have:=HR.o _ hq;have:=b6.o;have:=a6.size;show q<w4.heap.size;omega
  exact hq.2)⟩)
 have g4:=aB a2;clear a6 a2 e2 e5 c4 b0 b8 a9 f1;obtain⟨c0,c1,c2,c3⟩:=lO g1.o aA d9.o.head hop;simp only at c0 c1 c2 c3;have a8:Hid (res=.yes (eG (cP (bK b ha).body) L)):=aB (by
  rw[d3.o,iL (by unfold bW;simp only;rw[if_neg aA,if_pos (.inr hop)])];unfold kD;simp only;rw[if_neg aA,if_neg aA,if_neg aA,if_pos hop])
 obtain⟨ia,rfl⟩ : ∃ia:Nat,ha=(ia:Int):=⟨ha.toNat,by omega⟩;have f3:=f0.o.entries.len;obtain⟨be,oe,f6,e8,⟨As,ns,cs,Ap,np,cp,Ai,ni,ci,Ac,nc,ccc,At,nt,ct,Ab,nb,cb⟩,_,_,_,_,_,_,c6,c5⟩:=f0.o.entries.at_ (k:=ia) aA;have e7:bK b (ia:Int)=b.entries.getD ia default:=by unfold bK;rw[Int.toNat_natCast]
 rw[<-e7] at c5;simp only at c6;have d4:=aB (fun (W:World) (h:Below w.heap.size w W)=>sT (b:=b) (c5.body.below h) c2 c3);obtain⟨⟨⟨yo,ya,yb⟩,yat,yk⟩,hY⟩ : ∃y,y=cP (bK b (ia:Int)).body:=⟨_,rfl⟩;rw[<-hY] at d4 a8;simp only at d4;have f4:ia<v.ne:=aA;have d5:(ho==5)=false:=by rw[beq_eq_false_iff_ne];omega
 have d7:(ho==7)=false:=by rw[beq_eq_false_iff_ne];omega
 have d1:(ho==1)=false:=by rw[beq_eq_false_iff_ne];omega
 have d8:(ho==8)=true:=by simp[hop]
 have zb:=aS.cell b2.o.bk;rw[f6] at zb;have c65:=(b2.o.bel.cell (p:=⟨be,oe+ia*7+6,I⟩) e8).trans c6;have zn:=aS.cell f7.o;clear hop c0 c1 c2 c3 f3 c6 c5 e7 hY e8;go_wp2_with fail;refine (d4.o _ b2.o.bel).mono ?_;rintro e w6 ⟨b4,⟨Dk,rk,gk,Da,ra,ga,Df,rf,gf⟩,rfl,e1⟩;have b3:=aP w6 (Z #[O S yo,O S ya,O S yb,Y Dk rk gk,Y Da ra ga,Y Df rf gf] 85);have d2:=aB ((b2.o.below b4).below b3);have a5:=b4.trans (b3.mono b4.size);have g2:Hid (∀q,bB R V0 ((w4.alloc (Z #[O S ho,O S (ia:Int),O S hb,Y Ck pk ek,Y Ca pa ea,Y Cf pf ef] 85)).alloc (Z #[O S ho,O S (ia:Int),O S hb] 46)) q->q<(((w4.alloc (Z #[O S ho,O S (ia:Int),O S hb,Y Ck pk ek,Y Ca pa ea,Y Cf pf ef] 85)).alloc (Z #[O S ho,O S (ia:Int),O S hb] 46))).heap.size):=aB (fun q hq=>by
  rcases hq with hq | hq
  · have:=HR.o _ hq;have:=b2.o.bel.size;omega
  exact hq.2)
 have e9:=aB (gM (R:=bB R V0 (w6.alloc (Z #[O S yo,O S ya,O S yb,Y Dk rk gk,Y Da ra ga,Y Df rf gf] 85))) (w:=w6.alloc (Z #[O S yo,O S ya,O S yb,Y Dk rk gk,Y Da ra ga,Y Df rf gf] 85)) (x:=((⟨yo,ya,yb⟩:Nd),yat,yk)) (t:=⟨Dk,rk,gk,Da,ra,ga,Df,rf,gf⟩) (L:=L) (B:=KB) (m:=kl) (d:=kd) (fun q hq=>by
  rcases hq with hq | hq
  · have:=HR.o _ hq;have:=d2.o.bel.size;omega
  exact hq.2) (e1.keep fun q hq=>⟨Or.inr ⟨Nat.le_trans b2.o.sz hq.1,Nat.lt_of_lt_of_le hq.2 b3.size⟩,fun o=>b3.cell (p:=⟨q,o,I⟩) hq.2⟩) (d6.o.keep fun q hq=>⟨hq.to (Nat.le_refl _) a5.size,fun o=>a5.cell (p:=⟨q,o,I⟩) (g2.o q hq)⟩) aA)
 have e6:=aS.new w6 85 #[O S yo,O S ya,O S yb,Y Dk rk gk,Y Da ra ga,Y Df rf gf];have z7:=aS.cell e6;clear b4 b3 a5 e1 zb zn c65 e6;obtain⟨⟨⟨zo,za,zb⟩,e0,zk⟩,hZ⟩ : ∃z,z=eG ((⟨yo,ya,yb⟩:Nd),yat,yk) L:=⟨_,rfl⟩;rw[<-hZ] at e9 a8;go_wp2_with fail;refine (e9.o).mono ?_;rintro e w8 ⟨c7,⟨Ek,sk,fk,Ea,sa,fa,Ef,sf,ff⟩,rfl,e3⟩;have b7:=aB (d2.o.below c7);have g0:Hid (dX (bB R V0 w8) w8 ⟨Ek,sk,fk,Ea,sa,fa,Ef,sf,ff⟩ ((⟨zo,za,zb⟩:Nd),e0,zk)):=aB (e3.keep fun q hq=>⟨by
  rcases hq with hq | hq
  · exact hq.to (Nat.le_refl _) c7.size
  exact Or.inr ⟨Nat.le_trans d2.o.sz hq.1,hq.2⟩,fun _=>rfl⟩)
 have zr:=aS.cell b7.o.r;have zf:=aS.frozen b7.o.r;clear c7 e3 z7;go_wp2_with fail;refine bodyPost_ret (v:=.tuple #[J #[O S zo,O S za,O S zb,Y Ek sk fk,Y Ea sa fa,Y Ef sf ff],.bool true,O S 0]) ?_ rfl ?_
 · exact dR (g:=w.heap.size+1+1) (cJ b7.o.r _ _ _ _ _ _) aD
 exact qW (V:=V0) (t:=⟨Ek,sk,fk,Ea,sa,fa,Ef,sf,ff⟩) (y:=((⟨zo,za,zb⟩:Nd),e0,zk)) HR.o aA (by have:=b6.o;omega) b7.o.bel g0.o (.inr (.inr ⟨a8.o,rfl,rfl⟩))
theorem PO {v:bO} {b:Bk} {w0:World} {cA:Option Addr} {cn cc:Nat} {cv:List (List Nd)} (hr:bP b=0) (hcx:fR b cv) {gas:Nat} (IH:KU v b w0 cA cn cc cv gas) {w:World} {R:Nat->Prop} {t:iE} {x:TT} (hbk:bX w v b) (hctx:jI (· < w.heap.size) w cA cn cc cv) (hR:∀q,R q->q<w.heap.size) (ht:dX R w t x) (hx:bR b (cv.length:Int) x) (hsz:bI x<gas+1) (hop:(bU x).1.1.op=1) :
 Calls Tryz.prog 45 #[J #[O S b.vars,Y v.Ao v.no v.co,Y v.Ae v.ne v.ce,O S b.nat,Y v.Ap v.np v.cp],Y cA cn cc,J (bH t x.1)] w (DN R w (iF b cv (gas+1) (bU x))):=by
 obtain⟨res,a3⟩ : ∃r,r=iF b cv (gas+1) (bU x):=⟨_,rfl⟩;rw[<-a3];have b0:=kI hx;have a4:=dJ hx;have a6:bI x<=4096:=hx.few;have a1:=(a7 w (Z #[O S b.vars,Y v.Ao v.no v.co,Y v.Ae v.ne v.ce,O S b.nat,Y v.Ap v.np v.cp] 26) (Z (bH t x.1) 85)).alloc aH (Z #[O S 0,O S 0,O S 0,Y I 0 0,Y I 0 0,Y I 0 0] 85);have b3:=aB (eC (fun q hq=>Nat.lt_of_lt_of_le (hR q hq) a1.size) (ht.below hR a1) hx.rt);obtain⟨⟨⟨ho,ha,hb⟩,d8,hk⟩,L,i7⟩ : ∃F L,bU x=(F,L):=⟨_,_,rfl⟩;rw[i7] at b3 a3 b0 a4 hop;unfold DM at b3;simp only at b3 hop;have d2:DP w (((w.alloc (Z #[O S b.vars,Y v.Ao v.no v.co,Y v.Ae v.ne v.ce,O S b.nat,Y v.Ap v.np v.cp] 26)).alloc (Z (bH t x.1) 85)).alloc (Z #[O S 0,O S 0,O S 0,Y I 0 0,Y I 0 0,Y I 0 0] 85)) #[O S b.vars,Y v.Ao v.no v.co,Y v.Ae v.ne v.ce,O S b.nat,Y v.Ap v.np v.cp] (bH t x.1) (((w.alloc (Z #[O S b.vars,Y v.Ao v.no v.co,Y v.Ae v.ne v.ce,O S b.nat,Y v.Ap v.np v.cp] 26)).alloc (Z (bH t x.1) 85)).alloc (Z #[O S 0,O S 0,O S 0,Y I 0 0,Y I 0 0,Y I 0 0] 85)):=⟨a1,Nat.le_refl _,((aS.new _ _ _).alloc _).alloc _,(aS.new' aD).alloc _,aS.new' aD⟩;have e1:dX (bB R (((w.alloc (Z #[O S b.vars,Y v.Ao v.no v.co,Y v.Ae v.ne v.ce,O S b.nat,Y v.Ap v.np v.cp] 26)).alloc (Z (bH t x.1) 85)).alloc (Z #[O S 0,O S 0,O S 0,Y I 0 0,Y I 0 0,Y I 0 0] 85)) (((w.alloc (Z #[O S b.vars,Y v.Ao v.no v.co,Y v.Ae v.ne v.ce,O S b.nat,Y v.Ap v.np v.cp] 26)).alloc (Z (bH t x.1) 85)).alloc (Z #[O S 0,O S 0,O S 0,Y I 0 0,Y I 0 0,Y I 0 0] 85))) (((w.alloc (Z #[O S b.vars,Y v.Ao v.no v.co,Y v.Ae v.ne v.ce,O S b.nat,Y v.Ap v.np v.cp] 26)).alloc (Z (bH t x.1) 85)).alloc (Z #[O S 0,O S 0,O S 0,Y I 0 0,Y I 0 0,Y I 0 0] 85)) t x:=ht.keep fun q hq=>⟨Or.inl hq,fun o=>a1.cell (p:=⟨q,o,I⟩) (hR q hq)⟩;have e0:(((w.alloc (Z #[O S b.vars,Y v.Ao v.no v.co,Y v.Ae v.ne v.ce,O S b.nat,Y v.Ap v.np v.cp] 26)).alloc (Z (bH t x.1) 85)).alloc (Z #[O S 0,O S 0,O S 0,Y I 0 0,Y I 0 0,Y I 0 0] 85)).heap.size=w.heap.size+3:=by simp
 obtain⟨V0,c4⟩ : ∃V0,V0=((w.alloc (Z #[O S b.vars,Y v.Ao v.no v.co,Y v.Ae v.ne v.ce,O S b.nat,Y v.Ap v.np v.cp] 26)).alloc (Z (bH t x.1) 85)).alloc (Z #[O S 0,O S 0,O S 0,Y I 0 0,Y I 0 0,Y I 0 0] 85):=⟨_,rfl⟩;rw[<-c4] at a1 b3 d2 e1 e0;obtain⟨kl,g6⟩ : ∃k,k=L.length:=⟨_,rfl⟩;have j1:L.length<=4096:=by
  have h3:=a4;have h4:bT L<=4096:=by
   have:dK (((⟨ho,ha,hb⟩:Nd),d8,hk),L)=bI ((⟨ho,ha,hb⟩:Nd),d8,hk)+bT L:=rfl;omega
  exact Nat.le_trans (eW L) h4
 rw[<-g6] at b3 j1;have b7:=aB a3;have f5:=aB b0;have j9:=aB a4;have k5:=aB a6;have c8:=aB d2;have b2:=aB e1;have b6:=aB e0;have HR:=aB hR;have b8:=aB hctx;have HX:=aB hx;have k7:=aB IH;have i1:=aB hcx;have HT:=aB ht;have k6:=aB hsz;clear g6 a3 b0 a4 a6 d2 e1 e0 hR hbk hctx hx IH hcx hr ht hsz a1;obtain⟨⟨xo,xa,xb⟩,xat,xk⟩:=x;obtain⟨Ak,nk,ck,Aa,na,ca,Af,nf,cf⟩:=t;simp only at c8 b2 c4;show Calls Tryz.prog 45 #[J #[O S b.vars,Y v.Ao v.no v.co,Y v.Ae v.ne v.ce,O S b.nat,Y v.Ap v.np v.cp],Y cA cn cc,J #[O S xo,O S xa,O S xb,Y Ak nk ck,Y Aa na ca,Y Af nf cf]] w _;go_in;go_upto_region 1 with fail
 rw[<-c4];clear c4;have i2:=aS.cell c8.o.x;go_wp2_with fail;refine (b3.o).mono ?_;rintro e w4 ⟨b1,⟨Ck,pk,ek,Ca,pa,ea,Cf,pf,ef⟩,KB,kd,rfl,g2,g7,d3⟩;have a9:=a7 w4 (Z #[O S ho,O S ha,O S hb,Y Ck pk ek,Y Ca pa ea,Y Cf pf ef] 85) (Z #[O S ho,O S ha,O S hb] 46);have a2:=aB ((c8.o.below b1).below a9);have k4:Hid (aS ((w4.alloc (Z #[O S ho,O S ha,O S hb,Y Ck pk ek,Y Ca pa ea,Y Cf pf ef] 85)).alloc (Z #[O S ho,O S ha,O S hb] 46)) w4.heap.size 85 #[O S ho,O S ha,O S hb,Y Ck pk ek,Y Ca pa ea,Y Cf pf ef]):=aB ((aS.new _ _ _).alloc _);have e2:Hid (aS ((w4.alloc (Z #[O S ho,O S ha,O S hb,Y Ck pk ek,Y Ca pa ea,Y Cf pf ef] 85)).alloc (Z #[O S ho,O S ha,O S hb] 46)) (w4.heap.size+1) 46 #[O S ho,O S ha,O S hb]):=aB (aS.new' aD);have e4:Hid (dX (bB R V0 ((w4.alloc (Z #[O S ho,O S ha,O S hb,Y Ck pk ek,Y Ca pa ea,Y Cf pf ef] 85)).alloc (Z #[O S ho,O S ha,O S hb] 46))) ((w4.alloc (Z #[O S ho,O S ha,O S hb,Y Ck pk ek,Y Ca pa ea,Y Cf pf ef] 85)).alloc (Z #[O S ho,O S ha,O S hb] 46)) ⟨Ak,nk,ck,Aa,na,ca,Af,nf,cf⟩ ((⟨xo,xa,xb⟩:Nd),xat,xk)):=aB (b2.o.keep fun q hq=>⟨hq.to (Nat.le_refl _) (Nat.le_trans b1.size a9.size),fun o=>(b1.trans (a9.mono b1.size)).cell (p:=⟨q,o,I⟩) (by
  rcases hq with hq | hq
  · have:=HR.o _ hq;have:=b6.o;show q<V0.heap.size;omega
  exact hq.2)⟩)
 have j3:Hid (dX R ((w4.alloc (Z #[O S ho,O S ha,O S hb,Y Ck pk ek,Y Ca pa ea,Y Cf pf ef] 85)).alloc (Z #[O S ho,O S ha,O S hb] 46)) ⟨Ck,pk,ek,Ca,pa,ea,Cf,pf,ef⟩ ((⟨ho,ha,hb⟩:Nd),d8,hk)):=aB (g2.keep fun q hq=>⟨hq,fun o=>a9.cell (p:=⟨q,o,I⟩) (by have:=HR.o _ hq;have:=b6.o;have:=b1.size;show q<w4.heap.size;omega)⟩);have f2:Hid (dM (bB R V0 ((w4.alloc (Z #[O S ho,O S ha,O S hb,Y Ck pk ek,Y Ca pa ea,Y Cf pf ef] 85)).alloc (Z #[O S ho,O S ha,O S hb] 46))) ((w4.alloc (Z #[O S ho,O S ha,O S hb,Y Ck pk ek,Y Ca pa ea,Y Cf pf ef] 85)).alloc (Z #[O S ho,O S ha,O S hb] 46)) KB kl kd (gH L)):=aB (g7.keep fun q hq=>⟨hq.to (Nat.le_refl _) a9.size,fun o=>a9.cell (p:=⟨q,o,I⟩) (by
  rcases hq with hq | hq
  · have:=HR.o _ hq;have:=b6.o;have:=b1.size;show q<w4.heap.size;omega
  exact hq.2)⟩)
 have k0:=aB a9;clear b1 a9 g2 g7 d3 b3 c8 b2 i2;obtain⟨c0,c1,c2⟩:=qI f5.o.head hop;simp only at c0 c1 c2;obtain⟨ia,rfl⟩ : ∃ia:Nat,ha=(ia:Int):=⟨ha.toNat,by omega⟩;rw[Int.toNat_natCast] at c1;have d4:=b8.o.len;have b5:=i1.o.few;obtain⟨bb,oo,i9,j0,hm⟩:=b8.o.mem aA;obtain⟨kx,g5⟩ : ∃kx,kx=cn-1-ia:=⟨_,rfl⟩;obtain⟨A1,n1,c1',A2,n2,c2',_,y2,t2⟩:=hm kx aA;have f8:jG cv (ia:Int)=cv.getD kx []:=by unfold jG;rw[Int.toNat_natCast,d4,g5]
 rw[<-f8] at t2;have f7:(jG cv (ia:Int)).length=n2:=t2.len;have y5:=(a2.o.bel.cell (p:=⟨bb,oo+kx*2+1,I⟩) j0).trans y2;have k3:IntKind.i64.wrap ((cn:Int)-1)=(cn:Int)-1:=by rw[IntKind.wrap_i64];omega
 have k2:IntKind.i64.wrap ((cn:Int)-1-(ia:Int))=(kx:Int):=by rw[IntKind.wrap_i64];omega
 have k1:IntKind.i64.wrap ((ia:Int)+1)=((ia+1:Nat):Int):=by rw[IntKind.wrap_i64];omega
 have i8:kx<cn:=aA;have e3:=aB f7;have j5:=aB (fun (W:World) (h:Below w.heap.size w W)=>(bJ.keep t2 (R':=(· < W.heap.size)) fun q hq=>⟨Nat.lt_of_lt_of_le hq h.size,fun o=>h.cell (p:=⟨q,o,I⟩) hq⟩:aY W A2 n2 c2' (jG cv (ia:Int))));have d0:=aB (And.intro c1 (And.intro d4 b5));have d5:(ho==5)=false:=by rw[beq_eq_false_iff_ne];omega
 have d7:(ho==7)=false:=by rw[beq_eq_false_iff_ne];omega
 have d1:(ho==1)=true:=by simp[hop]
 have zn:=aS.cell e2.o;have h1:=aB hop;clear hop c0 c2 hm f8 g5 t2 f7 y2 d4 b5 c1;subst i9;by_cases hn2:n2=0
 · have d9:((n2:Int)==0)=true:=by simp[hn2]
   have HN:Hid (res=.no):=aB (by
    have h9:=e3.o;have h8:=h1.o;rw[b7.o];refine nI ?_ ?_
    · unfold bW;simp only;rw[if_neg aA,if_neg aA,if_pos h8,h9,hn2];decide
    unfold cS;simp only;rw[if_neg aA,if_neg aA])
   have zx:=aS.cell a2.o.x;have zr:=aS.cell a2.o.r;have zf:=aS.frozen a2.o.r;clear hn2;go_wp2_with fail;refine bodyPost_ret (v:=.tuple #[J #[O S xo,O S xa,O S xb,Y Ak nk ck,Y Aa na ca,Y Af nf cf],.bool false,O S 0]) ?_ rfl ?_
   · exact dR (g:=w.heap.size+1+1) (cJ a2.o.r _ _ _ _ _ _) aD
   exact qW (V:=V0) (t:=⟨Ak,nk,ck,Aa,na,ca,Af,nf,cf⟩) (y:=((⟨xo,xa,xb⟩:Nd),xat,xk)) HR.o aA (by have:=b6.o;omega) a2.o.bel e4.o (.inl ⟨HN.o,rfl,rfl⟩)
 have d9:((n2:Int)==0)=false:=by rw[beq_eq_false_iff_ne];omega
 obtain⟨u,g0,f9,a8,i6,_⟩:=sZ i1.o (a:=(ia:Int)) aA (by have:=d0.o.1;omega) (by have:=e3.o;omega);rw[Int.toNat_natCast] at a8;have a5:Hid (res=.yes (eG (i5 u ((ia:Int)+1)) L)):=aB (by
  have h9:=e3.o;have h8:=h1.o;rw[b7.o,iL (by unfold bW;simp only;rw[if_neg aA,if_neg aA,if_pos h8,h9];exact decide_eq_true aA)];unfold kD;simp only;rw[if_neg aA,if_neg aA,if_pos h8,f9])
 have h7:=aB (fun (W:World) (h:Below w.heap.size w W)=>sT (j5.o W h) g0 a8);have g8:=tO a8 (up:=((ia+1:Nat):Int)) (by have:=d0.o;omega);have f4:=aB (fun (W:World) (R':Nat->Prop) (t:iE) (hR' : ∀q,R' q->q<W.heap.size) (ht:dX R' W t u)=>mM (R:=R') (up:=((ia+1:Nat):Int)) (u:=0) hR' ht a8.okt.ok a8.okt.all aA (by have:=d0.o;omega) (Int.le_refl 0) (by
  have h2:=eT u.2.2;have h3:=dL u.1 u.2.1 u.2.2;have h4:=a8.few;have h5:bI u=bI (u.1,u.2.1,u.2.2):=rfl;omega))
 have e6:=aB (fun (W:World) (R':Nat->Prop) (t:iE) (hR' : ∀q,R' q->q<W.heap.size) (ht:dX R' W t u)=>uS (i:=((ia+1:Nat):Int)) hR' ht a8 aA (by have:=d0.o;omega));obtain⟨HH,g9⟩ : ∃H,H=oT ((ia+1:Nat):Int) u.1 u.2.2 0:=⟨_,rfl⟩;rw[<-g9] at g8 f4;have dH:decide (HH>1048576)=false:=decide_eq_false aA;rw[show (ia:Int)+1=((ia+1:Nat):Int) from by omega] at a5;obtain⟨q,hq⟩ : ∃q,q=i5 u ((ia+1:Nat):Int):=⟨_,rfl⟩;rw[<-hq] at a5 e6;obtain⟨⟨uo,ua,ub⟩,uat,uk⟩:=u;simp only at h7 f4 e6;clear g0 f9 a8 i6 g8 g9 hq hn2;go_wp2_with fail;refine (h7.o _ a2.o.bel).mono ?_;rintro e w6 ⟨d6,⟨Dk,rk,gk,Da,ra,ga,Df,rf,gf⟩,rfl,g1⟩;have c3:=aP w6 (Z #[O S uo,O S ua,O S ub,Y Dk rk gk,Y Da ra ga,Y Df rf gf] 85);have a0:=d6.trans (c3.mono d6.size);have c7:=aB (a2.o.below a0);have i0:Hid (∀q,bB R V0 ((w4.alloc (Z #[O S ho,O S (ia:Int),O S hb,Y Ck pk ek,Y Ca pa ea,Y Cf pf ef] 85)).alloc (Z #[O S ho,O S (ia:Int),O S hb] 46)) q->q<((w4.alloc (Z #[O S ho,O S (ia:Int),O S hb,Y Ck pk ek,Y Ca pa ea,Y Cf pf ef] 85)).alloc (Z #[O S ho,O S (ia:Int),O S hb] 46)).heap.size):=aB (fun q hq=>by
  rcases hq with hq | hq
  · have:=HR.o _ hq;have:=a2.o.bel.size;omega
  exact hq.2)
 have f1:Hid (dM (bB R V0 (w6.alloc (Z #[O S uo,O S ua,O S ub,Y Dk rk gk,Y Da ra ga,Y Df rf gf] 85))) (w6.alloc (Z #[O S uo,O S ua,O S ub,Y Dk rk gk,Y Da ra ga,Y Df rf gf] 85)) KB kl kd (gH L)):=aB (f2.o.keep fun q hq=>⟨hq.to (Nat.le_refl _) a0.size,fun o=>a0.cell (p:=⟨q,o,I⟩) (i0.o q hq)⟩);have h0:Hid (dX (bB R V0 (w6.alloc (Z #[O S uo,O S ua,O S ub,Y Dk rk gk,Y Da ra ga,Y Df rf gf] 85))) (w6.alloc (Z #[O S uo,O S ua,O S ub,Y Dk rk gk,Y Da ra ga,Y Df rf gf] 85)) ⟨Dk,rk,gk,Da,ra,ga,Df,rf,gf⟩ ((⟨uo,ua,ub⟩:Nd),uat,uk)):=aB (g1.keep fun q hq=>⟨Or.inr ⟨Nat.le_trans a2.o.sz hq.1,Nat.lt_of_lt_of_le hq.2 c3.size⟩,fun o=>c3.cell (p:=⟨q,o,I⟩) hq.2⟩);have f3:=aB (aS.new w6 85 #[O S uo,O S ua,O S ub,Y Dk rk gk,Y Da ra ga,Y Df rf gf]);have e8:=aB (e2.o.below a0 e2.o.lt);have z7:=aS.cell f3.o;have i4:=aS.cell e8.o;have c9:Hid (∀(W:World),w.heap.size<=W.heap.size->∀q,bB R V0 W q->q<W.heap.size):=aB (fun W hW q hq=>by
  rcases hq with hq | hq
  · have:=HR.o _ hq;omega
  exact hq.2)
 have e7:Hid (∀(W W':World),w.heap.size<=W.heap.size->Below W.heap.size W W'->∀q,bB R V0 W q->bB R V0 W' q/\∀o,W'.cell? ⟨q,o,I⟩=W.cell? ⟨q,o,I⟩):=aB (fun W W' hW hB q hq=>⟨hq.to (Nat.le_refl _) hB.size,fun o=>hB.cell (p:=⟨q,o,I⟩) (c9.o W hW q hq)⟩);obtain⟨⟨qo,qa,qb⟩,qat,qk⟩:=q;clear d6 c3 a0 g1 zn y5 i0;go_wp2_with fail;refine (f4.o _ _ _ (c9.o _ c7.o.bel.size) h0.o).mono ?_;rintro e w8 ⟨rfl,b4⟩;have c6:=aB (c7.o.below b4);have j2:=aB (h0.o.keep (e7.o _ _ c7.o.bel.size b4));have f0:=aB (f1.o.keep (e7.o _ _ c7.o.bel.size b4));have j8:=aB (f3.o.below b4 f3.o.lt);have j7:=aB (e8.o.below b4 e8.o.lt);have z8:=aS.cell j8.o;have i3:=aS.cell j7.o;clear b4 z7 i4;go_wp2_with fail;refine (e6.o _ _ _ (c9.o _ c6.o.bel.size) j2.o).mono ?_;rintro e w9 ⟨b9,⟨Ek,sk,fk,Ea,sa,fa,Ef,sf,ff⟩,rfl,g4⟩;have e5:=aB (c6.o.below b9);have e9:=aB (f0.o.keep (e7.o _ _ c6.o.bel.size b9));have j6:Hid (dX (bB R V0 w9) w9 ⟨Ek,sk,fk,Ea,sa,fa,Ef,sf,ff⟩ ((⟨qo,qa,qb⟩:Nd),qat,qk)):=aB (g4.keep fun q hq=>⟨by
  rcases hq with hq | hq
  · exact hq.to (Nat.le_refl _) b9.size
  exact Or.inr ⟨Nat.le_trans c6.o.sz hq.1,hq.2⟩,fun _=>rfl⟩)
 have h6:=aB (gM (c9.o _ e5.o.bel.size) j6.o e9.o aA);obtain⟨⟨⟨zo,za,zb⟩,f6,zk⟩,hZ⟩ : ∃z,z=eG ((⟨qo,qa,qb⟩:Nd),qat,qk) L:=⟨_,rfl⟩;rw[<-hZ] at h6 a5;clear b9 g4 z8 i3 hZ;go_wp2_with fail;refine (h6.o).mono ?_;rintro e wa ⟨a1,⟨Fk,tk,ik,Fa,ta,ja,Ff,tf,jf⟩,rfl,g3⟩;have c5:=aB (e5.o.below a1);have j4:Hid (dX (bB R V0 wa) wa ⟨Fk,tk,ik,Fa,ta,ja,Ff,tf,jf⟩ ((⟨zo,za,zb⟩:Nd),f6,zk)):=aB (g3.keep fun q hq=>⟨by
  rcases hq with hq | hq
  · exact hq.to (Nat.le_refl _) a1.size
  exact Or.inr ⟨Nat.le_trans e5.o.sz hq.1,hq.2⟩,fun _=>rfl⟩)
 have zr:=aS.cell c5.o.r;have zf:=aS.frozen c5.o.r;clear a1 g3;go_wp2_with fail;refine bodyPost_ret (v:=.tuple #[J #[O S zo,O S za,O S zb,Y Fk tk ik,Y Fa ta ja,Y Ff tf jf],.bool true,O S 0]) ?_ rfl ?_
 · exact dR (g:=w.heap.size+1+1) (cJ c5.o.r _ _ _ _ _ _) aD
 exact qW (V:=V0) (t:=⟨Fk,tk,ik,Fa,ta,ja,Ff,tf,jf⟩) (y:=((⟨zo,za,zb⟩:Nd),f6,zk)) HR.o aA (by have:=b6.o;omega) c5.o.bel j4.o (.inr (.inr ⟨a5.o,rfl,rfl⟩))
theorem M8 {v:bO} {b:Bk} {w0:World} {cA:Option Addr} {cn cc:Nat} {cv:List (List Nd)} (hr:bP b=0) (hcx:fR b cv) {gas:Nat} (IH:KU v b w0 cA cn cc cv gas) {w:World} {R:Nat->Prop} {t:iE} {x:TT} (hbk:bX w v b) (hctx:jI (· < w.heap.size) w cA cn cc cv) (hR:∀q,R q->q<w.heap.size) (ht:dX R w t x) (hx:bR b (cv.length:Int) x) (hsz:bI x<gas+1) (hop:(bU x).1.1.op=5/\(bU x).2.length=0) :
 Calls Tryz.prog 45 #[J #[O S b.vars,Y v.Ao v.no v.co,Y v.Ae v.ne v.ce,O S b.nat,Y v.Ap v.np v.cp],Y cA cn cc,J (bH t x.1)] w (DN R w (iF b cv (gas+1) (bU x))):=by
 obtain⟨res,a0⟩ : ∃r,r=iF b cv (gas+1) (bU x):=⟨_,rfl⟩;rw[<-a0];have a9:=kI hx;have a1:=dJ hx;have a2:bI x<=4096:=hx.few;have a5:=(a7 w (Z #[O S b.vars,Y v.Ao v.no v.co,Y v.Ae v.ne v.ce,O S b.nat,Y v.Ap v.np v.cp] 26) (Z (bH t x.1) 85)).alloc aH (Z #[O S 0,O S 0,O S 0,Y I 0 0,Y I 0 0,Y I 0 0] 85);have a4:=aB (eC (fun q hq=>Nat.lt_of_lt_of_le (hR q hq) a5.size) (ht.below hR a5) hx.rt);obtain⟨⟨⟨ho,ha,hb⟩,c4,hk⟩,L,c7⟩ : ∃F L,bU x=(F,L):=⟨_,_,rfl⟩;rw[c7] at a4 a0 a9 a1 hop;unfold DM at a4;simp only at a4 hop;have b3:DP w (((w.alloc (Z #[O S b.vars,Y v.Ao v.no v.co,Y v.Ae v.ne v.ce,O S b.nat,Y v.Ap v.np v.cp] 26)).alloc (Z (bH t x.1) 85)).alloc (Z #[O S 0,O S 0,O S 0,Y I 0 0,Y I 0 0,Y I 0 0] 85)) #[O S b.vars,Y v.Ao v.no v.co,Y v.Ae v.ne v.ce,O S b.nat,Y v.Ap v.np v.cp] (bH t x.1) (((w.alloc (Z #[O S b.vars,Y v.Ao v.no v.co,Y v.Ae v.ne v.ce,O S b.nat,Y v.Ap v.np v.cp] 26)).alloc (Z (bH t x.1) 85)).alloc (Z #[O S 0,O S 0,O S 0,Y I 0 0,Y I 0 0,Y I 0 0] 85)):=⟨a5,Nat.le_refl _,((aS.new _ _ _).alloc _).alloc _,(aS.new' aD).alloc _,aS.new' aD⟩;have b8:dX (bB R (((w.alloc (Z #[O S b.vars,Y v.Ao v.no v.co,Y v.Ae v.ne v.ce,O S b.nat,Y v.Ap v.np v.cp] 26)).alloc (Z (bH t x.1) 85)).alloc (Z #[O S 0,O S 0,O S 0,Y I 0 0,Y I 0 0,Y I 0 0] 85)) (((w.alloc (Z #[O S b.vars,Y v.Ao v.no v.co,Y v.Ae v.ne v.ce,O S b.nat,Y v.Ap v.np v.cp] 26)).alloc (Z (bH t x.1) 85)).alloc (Z #[O S 0,O S 0,O S 0,Y I 0 0,Y I 0 0,Y I 0 0] 85))) (((w.alloc (Z #[O S b.vars,Y v.Ao v.no v.co,Y v.Ae v.ne v.ce,O S b.nat,Y v.Ap v.np v.cp] 26)).alloc (Z (bH t x.1) 85)).alloc (Z #[O S 0,O S 0,O S 0,Y I 0 0,Y I 0 0,Y I 0 0] 85)) t x:=ht.keep fun q hq=>⟨Or.inl hq,fun o=>a5.cell (p:=⟨q,o,I⟩) (hR q hq)⟩;have b7:(((w.alloc (Z #[O S b.vars,Y v.Ao v.no v.co,Y v.Ae v.ne v.ce,O S b.nat,Y v.Ap v.np v.cp] 26)).alloc (Z (bH t x.1) 85)).alloc (Z #[O S 0,O S 0,O S 0,Y I 0 0,Y I 0 0,Y I 0 0] 85)).heap.size=w.heap.size+3:=by simp
 obtain⟨V0,b1⟩ : ∃V0,V0=((w.alloc (Z #[O S b.vars,Y v.Ao v.no v.co,Y v.Ae v.ne v.ce,O S b.nat,Y v.Ap v.np v.cp] 26)).alloc (Z (bH t x.1) 85)).alloc (Z #[O S 0,O S 0,O S 0,Y I 0 0,Y I 0 0,Y I 0 0] 85):=⟨_,rfl⟩;rw[<-b1] at a5 a4 b3 b8 b7;obtain⟨kl,b6⟩ : ∃k,k=L.length:=⟨_,rfl⟩;have c8:L.length<=4096:=by
  have h3:=a1;have h4:bT L<=4096:=by
   have:dK (((⟨ho,ha,hb⟩:Nd),c4,hk),L)=bI ((⟨ho,ha,hb⟩:Nd),c4,hk)+bT L:=rfl;omega
  exact Nat.le_trans (eW L) h4
 rw[<-b6] at a4 c8;have d0:=aB b6;have c1:=aB a0;have d2:=aB a1;have d3:=aB a2;have b2:=aB b3;have a3:=aB b8;have b9:=aB b7;have HR:=aB hR;have HX:=aB hx;have HT:=aB ht;have d4:=aB hsz;clear b6 a0 a9 a1 a2 b3 b8 b7 hR hbk hctx hx IH hcx hr ht hsz a5;obtain⟨⟨xo,xa,xb⟩,xat,xk⟩:=x;obtain⟨Ak,nk,ck,Aa,na,ca,Af,nf,cf⟩:=t;simp only at b2 a3 b1;show Calls Tryz.prog 45 #[J #[O S b.vars,Y v.Ao v.no v.co,Y v.Ae v.ne v.ce,O S b.nat,Y v.Ap v.np v.cp],Y cA cn cc,J #[O S xo,O S xa,O S xb,Y Ak nk ck,Y Aa na ca,Y Af nf cf]] w _;go_in;go_upto_region 1 with fail
 rw[<-b1];clear b1;have c5:=aS.cell b2.o.x;go_wp2_with fail;refine (a4.o).mono ?_;rintro e w4 ⟨a8,⟨Ck,pk,ek,Ca,pa,ea,Cf,pf,ef⟩,KB,kd,rfl,c6,c2,b4⟩;have a6:=a7 w4 (Z #[O S ho,O S ha,O S hb,Y Ck pk ek,Y Ca pa ea,Y Cf pf ef] 85) (Z #[O S ho,O S ha,O S hb] 46);have b0:=aB ((b2.o.below a8).below a6);have c9:Hid (aS ((w4.alloc (Z #[O S ho,O S ha,O S hb,Y Ck pk ek,Y Ca pa ea,Y Cf pf ef] 85)).alloc (Z #[O S ho,O S ha,O S hb] 46)) (w4.heap.size+1) 46 #[O S ho,O S ha,O S hb]):=aB (aS.new' aD);have c0:Hid (dX (bB R V0 ((w4.alloc (Z #[O S ho,O S ha,O S hb,Y Ck pk ek,Y Ca pa ea,Y Cf pf ef] 85)).alloc (Z #[O S ho,O S ha,O S hb] 46))) ((w4.alloc (Z #[O S ho,O S ha,O S hb,Y Ck pk ek,Y Ca pa ea,Y Cf pf ef] 85)).alloc (Z #[O S ho,O S ha,O S hb] 46)) ⟨Ak,nk,ck,Aa,na,ca,Af,nf,cf⟩ ((⟨xo,xa,xb⟩:Nd),xat,xk)):=aB (a3.o.keep fun q hq=>⟨hq.to (Nat.le_refl _) (Nat.le_trans a8.size a6.size),fun o=>(a8.trans (a6.mono a8.size)).cell (p:=⟨q,o,I⟩) (by
  rcases hq with hq | hq
  · have:=HR.o _ hq;have:=b9.o;show q<V0.heap.size;omega
  exact hq.2)⟩)
 have d1:Hid (dM (bB R V0 ((w4.alloc (Z #[O S ho,O S ha,O S hb,Y Ck pk ek,Y Ca pa ea,Y Cf pf ef] 85)).alloc (Z #[O S ho,O S ha,O S hb] 46))) ((w4.alloc (Z #[O S ho,O S ha,O S hb,Y Ck pk ek,Y Ca pa ea,Y Cf pf ef] 85)).alloc (Z #[O S ho,O S ha,O S hb] 46)) KB kl kd (gH L)):=aB (c2.keep fun q hq=>⟨hq.to (Nat.le_refl _) a6.size,fun o=>a6.cell (p:=⟨q,o,I⟩) (by
  rcases hq with hq | hq
  · have:=HR.o _ hq;have:=b9.o;have:=a8.size;show q<w4.heap.size;omega
  exact hq.2)⟩)
 clear a8 a6 c6 c2 b4 a4 b2 a3 c5;obtain⟨hop,b5⟩:=hop;have HN:Hid (res=.no):=aB (by
  rw[c1.o];refine nI ?_ ?_
  · unfold bW;simp only;rw[if_pos hop,b5];decide
  unfold cS;simp only;rw[if_neg aA,if_neg aA])
 have c3:kl=0:=d0.o.trans b5;have dk:((kl:Int)==0)=true:=by simp[c3]
 have d5:(ho==5)=true:=by simp[hop]
 have zx:=aS.cell b0.o.x;have zr:=aS.cell b0.o.r;have zf:=aS.frozen b0.o.r;have zn:=aS.cell c9.o;clear hop b5 c3;go_wp2_with fail;refine bodyPost_ret (v:=.tuple #[J #[O S xo,O S xa,O S xb,Y Ak nk ck,Y Aa na ca,Y Af nf cf],.bool false,O S 0]) ?_ rfl ?_
 · exact dR (g:=w.heap.size+1+1) (cJ b0.o.r _ _ _ _ _ _) aD
 exact qW (V:=V0) (t:=⟨Ak,nk,ck,Aa,na,ca,Af,nf,cf⟩) (y:=((⟨xo,xa,xb⟩:Nd),xat,xk)) HR.o aA (by have:=b9.o;omega) b0.o.bel c0.o (.inl ⟨HN.o,rfl,rfl⟩)
end Go.Proofs.YtjoddliplahgkaaGreat
