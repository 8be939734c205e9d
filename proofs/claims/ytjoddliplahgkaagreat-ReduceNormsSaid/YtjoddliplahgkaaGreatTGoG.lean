/- The reference's Go: a tree one step on. -/
import Derived.Test.YtjoddliplahgkaaGreatTGoO
import Derived.Test.YtjoddliplahgkaaGreatTRefTerm
namespace Go.Proofs.YtjoddliplahgkaaGreat
set_option linter.unusedVariables false
set_option linter.unusedSimpArgs false
open Go.RowKit
open Go.Value renaming int → O, slice → Y, agg → J
open Go.IntKind renaming i64 → S
open Go.Obj renaming cells → Z
open Option renaming none → I
open Go.Lib renaming hid->aB
set_option maxHeartbeats 4000000
set_option maxRecDepth 100000
variable {b:Bk}{cv:aAA}{cc cn gas:Nat}{R:Nat->Prop}{cA:ZZ}{x:TT}{w w0:aAB}{v:bR}{t:iA}
theorem rP{free:Int}{A:ZZ}{n c:Nat}{l:List Nd}(h:aX w A n c l)(U:l=aW x)(o:bO b free x):Calls Tryz.prog 44 #[Y A n c] w (fun e w'=>ZY w w'/\∃t:iA,e=.returned (.tuple #[J (fE t x.1),.bool true])/\fI (eC w w') w' t x):=by
 refine (kG h).mono ?_;rintro e w' ⟨hb,hh⟩;have G:cT l=x:=by rw[U];exact x8 o
 rcases hh with⟨h3,_⟩|⟨xs,n,D,k,rfl,ht,F,_⟩
 . have:=o.rt.shape;rw[<-U]at this;exact absurd this h3
 have e:cT l=(n,D,k):=by unfold cT;rw[F]
 rw[G]at e;rw[e];obtain⟨t,s,z⟩:=RC (x:=(n,D,k)) ht;exact⟨hb,t,by rw[s],z⟩
def VC(r:vK)(y:TT)(F:Bool)(D:Int):Prop:=(r=.no/\F=false/\D=0)\/(r=.bad/\F=true/\D=9)\/(r=.yes y/\F=true/\D=0)
def VB(R:Nat->Prop)(w:aAB)(r:vK)(e:Ending)(w':aAB):Prop:=ZY w w'/\∃(t:iA)(y:TT)(F:Bool)(D:Int),e=.returned (.tuple #[J (fE t y.1),.bool F,O S D])/\fI (bM R w w') w' t y/\VC r y F D
theorem dZ{g:Nat}{c0 c1 c2 c3 c4 c5:Value}{D:Array Value}(h:aT w g 85 #[c0,c1,c2,c3,c4,c5])(ht:D.getD 6 undef=.pointer (some ⟨g,0,I⟩)):
 (results Tryz.f45 D).run Tryz.prog w=.ok (.tuple #[J #[c0,c1,c2,c3,c4,c5],D.getD 7 undef,D.getD 8 undef]) w:=by
 have G:=h.cell;have F:D[6]?.getD undef=.pointer (some ⟨g,0,I⟩):=by rw[<-ht];simp
 simp[results,Tryz.results45,go_sem,F,G]
theorem sL{V W:aAB}{g:Nat}{y:TT}{h:Bool}{D:Int}{r:vK}(hR:∀b,R b->b<w.heap.size)(G:w.heap.size<=g)(U:g<V.heap.size)(z:ZY w W)(ht:fI (bM R V W) W t y)(hq:VC r y h D):
 VB R w r (.returned (.tuple #[J (fE t y.1),.bool h,O S D])) ((((((W.setCell ⟨g,0,I⟩ (O S y.1.op)).setCell ⟨g,1,I⟩ (O S y.1.a)).setCell ⟨g,2,I⟩ (O S y.1.b)).setCell ⟨g,3,I⟩ (Y t.Ak t.nk t.ck)).setCell ⟨g,4,I⟩ (Y t.Aa t.na t.ca)).setCell ⟨g,5,I⟩ (Y t.Af t.nf t.cf)):=by
 obtain⟨s,ys,F,o⟩:=rV hR G U z ht;injection F with F;injection F with F;refine⟨s,t,y,h,D,rfl,?_,hq⟩;have:ys=[O S y.1.op,O S y.1.a,O S y.1.b,Y t.Ak t.nk t.ck,Y t.Aa t.na t.ca,Y t.Af t.nf t.cf]:=by
  have:=congrArg Array.toList F;simpa using this.symm
 rw[this]at o;exact o
theorem oV:∀(L:List TT),L.length<=cB L
 | []=>XU _
 | a::r=>by have:=oV r;simp only[cB,YA];omega
structure UF (w V0:aAB) (BK X:Array Value) (W:aAB):Prop where
 bel:ZY w W
 sz:V0.heap.size<=W.heap.size
 bk:aT W w.heap.size 26 BK
 x:aT W (w.heap.size+1) 85 X
 r:aT W (w.heap.size+1+1) 85 #[O S 0,O S 0,O S 0,Y I 0 0,Y I 0 0,Y I 0 0]
theorem UF.below{V0 W G:aAB}{F X:Array Value}(h:UF w V0 F X W)(D:ZY W G):UF w V0 F X G:=⟨h.bel.trans (D.mono h.bel.size),YE h.sz D.size,h.bk.below D h.bk.lt,h.x.below D h.x.lt,h.r.below D h.r.lt⟩
def WO(v:bR)(b:Bk)(w0:aAB)(cA:ZZ)(cn cc:Nat)(cv:aAA)(gas:Nat):Prop:=∀(w:aAB)(R:Nat->Prop)(t:iA)(x:TT),cE w v b->jU (· < w.heap.size) w cA cn cc cv->(∀q,R q->q<w.heap.size)->fI R w t x->bO b (cv.length:Int) x->bL x<gas->Calls Tryz.prog 45 #[J #[O S b.vars,Y v.Ao v.no v.co,Y v.Ae v.ne v.ce,O S b.nat,Y v.Ap v.np v.cp],Y cA cn cc,J (fE t x.1)] w (VB R w (nS b cv gas (bX x)))
structure uE (v:bR) (b:Bk) (w0:aAB) (cA:ZZ) (cn cc:Nat) (cv:aAA) (gas:Nat) (w:aAB) (R:Nat->Prop) (t:iA) (x:TT):Prop where
 rt:bU b=0
 cx:gG b cv
 ih:WO v b w0 cA cn cc cv gas
 bk:cE w v b
 ctx:jU (· < w.heap.size) w cA cn cc cv
 hR:∀q,R q->q<w.heap.size
 tr:fI R w t x
 fit:bO b (cv.length:Int) x
 sz:bL x<gas+1
def yL(v:bR)(b:Bk)(cA:ZZ)(cn cc:Nat)(cv:aAA)(gas:Nat)(w:aAB)(R:Nat->Prop)(t:iA)(x:TT):Prop:=Calls Tryz.prog 45 #[J #[O S b.vars,Y v.Ao v.no v.co,Y v.Ae v.ne v.ce,O S b.nat,Y v.Ap v.np v.cp],Y cA cn cc,J (fE t x.1)] w (VB R w (nS b cv (gas+1) (bX x)))
def XL(R:Nat->Prop)(w V0:aAB)(BK X:Array Value)(t:iA)(x:TT)(F ha D:Int)(a0:List Nd)(hk:Fo)(L:List TT)(kl:Nat)(e:Ending)(G:aAB):Prop:=∃(o:ZZ)(pk ek:Nat)(U:ZZ)(pa s:Nat)(h:ZZ)(pf z:Nat)(KB:ZZ)(kd:Nat),e=.returned (.tuple #[J #[O S F,O S ha,O S D,Y o pk ek,Y U pa s,Y h pf z],Y KB kl kd])/\Hid (UF w V0 BK X ((G.alloc (Z #[O S F,O S ha,O S D,Y o pk ek,Y U pa s,Y h pf z] 85)).alloc (Z #[O S F,O S ha,O S D] 46)))/\Hid (aT ((G.alloc (Z #[O S F,O S ha,O S D,Y o pk ek,Y U pa s,Y h pf z] 85)).alloc (Z #[O S F,O S ha,O S D] 46)) G.heap.size 85 #[O S F,O S ha,O S D,Y o pk ek,Y U pa s,Y h pf z])/\Hid (aT ((G.alloc (Z #[O S F,O S ha,O S D,Y o pk ek,Y U pa s,Y h pf z] 85)).alloc (Z #[O S F,O S ha,O S D] 46)) (G.heap.size+1) 46 #[O S F,O S ha,O S D])/\Hid (fI (bM R V0 ((G.alloc (Z #[O S F,O S ha,O S D,Y o pk ek,Y U pa s,Y h pf z] 85)).alloc (Z #[O S F,O S ha,O S D] 46))) ((G.alloc (Z #[O S F,O S ha,O S D,Y o pk ek,Y U pa s,Y h pf z] 85)).alloc (Z #[O S F,O S ha,O S D] 46)) t x)/\Hid (fI R ((G.alloc (Z #[O S F,O S ha,O S D,Y o pk ek,Y U pa s,Y h pf z] 85)).alloc (Z #[O S F,O S ha,O S D] 46)) ⟨o,pk,ek,U,pa,s,h,pf,z⟩ ((⟨F,ha,D⟩:Nd),a0,hk))/\Hid (eX (bM R V0 ((G.alloc (Z #[O S F,O S ha,O S D,Y o pk ek,Y U pa s,Y h pf z] 85)).alloc (Z #[O S F,O S ha,O S D] 46))) ((G.alloc (Z #[O S F,O S ha,O S D,Y o pk ek,Y U pa s,Y h pf z] 85)).alloc (Z #[O S F,O S ha,O S D] 46)) KB kl kd (iP L))/\Hid (KB=I->kd=0)/\Hid (ZY G ((G.alloc (Z #[O S F,O S ha,O S D,Y o pk ek,Y U pa s,Y h pf z] 85)).alloc (Z #[O S F,O S ha,O S D] 46)))/\Hid (V0.heap.size<=G.heap.size)
theorem kO(H:uE v b w0 cA cn cc cv gas w R t x):∃(b1:vK)(ho ha s:Int)(G:List Nd)(hk:Fo)(L:List TT)(kl:Nat)(V0:aAB),nS b cv (gas+1) (bX x)=b1/\bX x=(((⟨ho,ha,s⟩:Nd),G,hk),L)/\((w.alloc (Z #[O S b.vars,Y v.Ao v.no v.co,Y v.Ae v.ne v.ce,O S b.nat,Y v.Ap v.np v.cp] 26)).alloc (Z (fE t x.1) 85)).alloc (Z #[O S 0,O S 0,O S 0,Y I 0 0,Y I 0 0,Y I 0 0] 85)=V0/\kl<=4096/\Hid (kl=L.length)/\Hid (b1=nS b cv (gas+1) (((⟨ho,ha,s⟩:Nd),G,hk),L))/\Hid (dM b (cv.length:Int) (((⟨ho,ha,s⟩:Nd),G,hk),L))/\Hid (dA (((⟨ho,ha,s⟩:Nd),G,hk),L)=bL x)/\Hid (bL x<=4096)/\Hid (UF w V0 #[O S b.vars,Y v.Ao v.no v.co,Y v.Ae v.ne v.ce,O S b.nat,Y v.Ap v.np v.cp] (fE t x.1) V0)/\Hid (V0.heap.size=w.heap.size+3)/\Hid (∀q,R q->q<w.heap.size)/\Hid (cE w v b)/\Hid (jU (· < w.heap.size) w cA cn cc cv)/\Hid (bO b (cv.length:Int) x)/\Hid (WO v b w0 cA cn cc cv gas)/\Hid (gG b cv)/\Hid (bU b=0)/\Hid (fI R w t x)/\Hid (bL x<gas+1)/\Hid (Calls Tryz.prog 79 #[J (fE t x.1)] V0 (XL R w V0 #[O S b.vars,Y v.Ao v.no v.co,Y v.Ae v.ne v.ce,O S b.nat,Y v.Ap v.np v.cp] (fE t x.1) t x ho ha s G hk L kl)):=by
 have hR:=H.hR;have z:=(bS w (Z #[O S b.vars,Y v.Ao v.no v.co,Y v.Ae v.ne v.ce,O S b.nat,Y v.Ap v.np v.cp] 26) (Z (fE t x.1) 85)).alloc aH (Z #[O S 0,O S 0,O S 0,Y I 0 0,Y I 0 0,Y I 0 0] 85);have a7:(((w.alloc (Z #[O S b.vars,Y v.Ao v.no v.co,Y v.Ae v.ne v.ce,O S b.nat,Y v.Ap v.np v.cp] 26)).alloc (Z (fE t x.1) 85)).alloc (Z #[O S 0,O S 0,O S 0,Y I 0 0,Y I 0 0,Y I 0 0] 85)).heap.size=w.heap.size+3:=by simp
 have a4:UF w (((w.alloc (Z #[O S b.vars,Y v.Ao v.no v.co,Y v.Ae v.ne v.ce,O S b.nat,Y v.Ap v.np v.cp] 26)).alloc (Z (fE t x.1) 85)).alloc (Z #[O S 0,O S 0,O S 0,Y I 0 0,Y I 0 0,Y I 0 0] 85)) #[O S b.vars,Y v.Ao v.no v.co,Y v.Ae v.ne v.ce,O S b.nat,Y v.Ap v.np v.cp] (fE t x.1) (((w.alloc (Z #[O S b.vars,Y v.Ao v.no v.co,Y v.Ae v.ne v.ce,O S b.nat,Y v.Ap v.np v.cp] 26)).alloc (Z (fE t x.1) 85)).alloc (Z #[O S 0,O S 0,O S 0,Y I 0 0,Y I 0 0,Y I 0 0] 85)):=⟨z,XU _,((aT.new _ _ _).alloc _).alloc _,(aT.new' aD).alloc _,aT.new' aD⟩;have a5:fI (bM R (((w.alloc (Z #[O S b.vars,Y v.Ao v.no v.co,Y v.Ae v.ne v.ce,O S b.nat,Y v.Ap v.np v.cp] 26)).alloc (Z (fE t x.1) 85)).alloc (Z #[O S 0,O S 0,O S 0,Y I 0 0,Y I 0 0,Y I 0 0] 85)) (((w.alloc (Z #[O S b.vars,Y v.Ao v.no v.co,Y v.Ae v.ne v.ce,O S b.nat,Y v.Ap v.np v.cp] 26)).alloc (Z (fE t x.1) 85)).alloc (Z #[O S 0,O S 0,O S 0,Y I 0 0,Y I 0 0,Y I 0 0] 85))) (((w.alloc (Z #[O S b.vars,Y v.Ao v.no v.co,Y v.Ae v.ne v.ce,O S b.nat,Y v.Ap v.np v.cp] 26)).alloc (Z (fE t x.1) 85)).alloc (Z #[O S 0,O S 0,O S 0,Y I 0 0,Y I 0 0,Y I 0 0] 85)) t x:=H.tr.keep fun q D=>⟨Or.inl D,fun o=>z.cell (p:=⟨q,o,I⟩) (hR q D)⟩;have a2:=kX (fun q D=>XT (hR q D) z.size) (H.tr.below hR z) H.fit.rt;obtain⟨V0,a6⟩:=aAJ (((w.alloc (Z #[O S b.vars,Y v.Ao v.no v.co,Y v.Ae v.ne v.ce,O S b.nat,Y v.Ap v.np v.cp] 26)).alloc (Z (fE t x.1) 85)).alloc (Z #[O S 0,O S 0,O S 0,Y I 0 0,Y I 0 0,Y I 0 0] 85));rw[<-a6]at z a2 a4 a5 a7;have a0:=lQ H.fit;have a1:=eY H.fit;have a3:bL x<=4096:=H.fit.few;obtain⟨⟨⟨⟨ho,ha,s⟩,G,hk⟩,L⟩,b3⟩:∃F,bX x=F:=⟨_,rfl⟩;rw[b3]at a2 a0 a1 ⊢;have b2:L.length<=4096:=by
  have h4:cB L<=4096:=by
   have:dA (((⟨ho,ha,s⟩:Nd),G,hk),L)=bL ((⟨ho,ha,s⟩:Nd),G,hk)+cB L:=rfl;omega
  exact YE (oV L) h4
 refine⟨_,ho,ha,s,G,hk,L,L.length,V0,rfl,rfl,a6.symm,b2,aB rfl,aB rfl,aB a0,aB a1,aB a3,aB a4,aB a7,aB hR,aB H.bk,aB H.ctx,aB H.fit,aB H.ih,aB H.cx,aB H.rt,aB H.tr,aB H.sz,aB (a2.mono ?_)⟩;rintro e w4 ⟨U,⟨Ck,pk,ek,Ca,pa,ea,Cf,pf,ef⟩,KB,kd,he,b0,a8,a9⟩;simp only at b0 a8;have h:=bS w4 (Z #[O S ho,O S ha,O S s,Y Ck pk ek,Y Ca pa ea,Y Cf pf ef] 85) (Z #[O S ho,O S ha,O S s] 46);refine⟨Ck,pk,ek,Ca,pa,ea,Cf,pf,ef,KB,kd,he,aB ((a4.below U).below h),aB ((aT.new _ _ _).alloc _),aB (aT.new' aD),aB (a5.keep fun q D=>⟨D.to (XU _) (YE U.size h.size),fun o=>(U.trans (h.mono U.size)).cell (p:=⟨q,o,I⟩) ?_⟩),aB (b0.keep fun q D=>⟨D,fun o=>h.cell (p:=⟨q,o,I⟩) (by have:=hR _ D;have:=U.size;show q<w4.heap.size;omega)⟩),aB (a8.keep fun q D=>⟨D.to (XU _) h.size,fun o=>h.cell (p:=⟨q,o,I⟩) ?_⟩),aB a9,aB h,aB U.size⟩
 . rcases D with D|D
   . have:=hR _ D;show q<V0.heap.size;omega
   exact D.2
 rcases D with D|D
 . have:=hR _ D;have:=U.size;show q<w4.heap.size;omega
 exact D.2
theorem NP(H:uE v b w0 cA cn cc cv gas w R t x)(h:(bX x).1.1.op≠1/\(bX x).1.1.op≠5/\(bX x).1.1.op≠7/\(bX x).1.1.op≠8/\(bX x).1.1.op≠11/\(bX x).1.1.op≠12):yL v b cA cn cc cv gas w R t x:=by
 obtain⟨⟨xo,xa,xb⟩,a6,xk⟩:=x;obtain⟨Ak,nk,ck,Aa,na,ca,Af,nf,cf⟩:=t;obtain⟨a5,s,ha,hb,c7,hk,L,kl,V0,F,a2,a1,c6,b8,z,b0,b1,c2,U,a3,HR,b5,a9,HX,b7,b6,b9,HT,c0,G⟩:=kO H;rw[a2]at h;simp only at h U a1 G;unfold yL;rw[F];clear F a2 H;show Calls Tryz.prog 45 #[J #[O S b.vars,Y v.Ao v.no v.co,Y v.Ae v.ne v.ce,O S b.nat,Y v.Ap v.np v.cp],Y cA cn cc,J #[O S xo,O S xa,O S xb,Y Ak nk ck,Y Aa na ca,Y Af nf cf]] w _;go_in;go_upto_region 1 with fail
 clear a1;have a7:=aT.cell U.o.x;go_wp2_with fail;refine (G.o).mono ?_;rintro e w4 ⟨Ck,pk,ek,Ca,pa,ea,Cf,pf,ef,KB,kd,rfl,D,c3,a4,a0,b4,b2,b3,a8,c1⟩;clear G U a7;have HN:Hid (a5=.no):=aB (by
  rw[z.o];refine oT ?_ ?_
  . unfold bT;simp only;rw[XN aA,XN aA,XN aA,XN aA,XN aA];simp
  unfold cQ;simp only;rw[XN aA,XN aA])
 have d5:(s==5)=false:=by rw[XY];omega
 have d7:(s==7)=false:=by rw[XY];omega
 have d1:(s==1)=false:=by rw[XY];omega
 have d8:(s==8)=false:=by rw[XY];omega
 have c4:(s==11)=false:=by rw[XY];omega
 have c5:(s==12)=false:=by rw[XY];omega
 have zx:=aT.cell D.o.x;have zr:=aT.cell D.o.r;have zf:=aT.frozen D.o.r;have zn:=aT.cell a4.o;clear h;go_wp2_with fail;refine XW (v:=.tuple #[J #[O S xo,O S xa,O S xb,Y Ak nk ck,Y Aa na ca,Y Af nf cf],.bool false,O S 0]) ?_ rfl ?_
 . exact dZ (g:=w.heap.size+1+1) (cK D.o.r _ _ _ _ _ _) aD
 exact sL (V:=V0) (t:=⟨Ak,nk,ck,Aa,na,ca,Af,nf,cf⟩) (y:=((⟨xo,xa,xb⟩:Nd),a6,xk)) HR.o aA (by have:=a3.o;omega) D.o.bel a0.o (.inl ⟨HN.o,rfl,rfl⟩)
theorem NO(H:uE v b w0 cA cn cc cv gas w R t x)(F:(bX x).1.1.op=8):yL v b cA cn cc cv gas w R t x:=by
 obtain⟨⟨xo,xa,xb⟩,g1,xk⟩:=x;obtain⟨Ak,nk,ck,Aa,na,ca,Af,nf,cf⟩:=t;obtain⟨e2,ho,ha,hb,g0,hk,L,kl,V0,a4,c4,b6,f9,f3,b5,b2,e6,f6,a7,d4,HR,b1,e5,HX,f2,f1,d2,HT,f4,a5⟩:=kO H;rw[c4]at F;simp only at F a7 b6 a5;unfold yL;rw[a4];clear a4 c4 H;show Calls Tryz.prog 45 #[J #[O S b.vars,Y v.Ao v.no v.co,Y v.Ae v.ne v.ce,O S b.nat,Y v.Ap v.np v.cp],Y cA cn cc,J #[O S xo,O S xa,O S xb,Y Ak nk ck,Y Aa na ca,Y Af nf cf]] w _;go_in;go_upto_region 1 with fail
 clear b6;have e3:=aT.cell a7.o.x;go_wp2_with fail;refine (a5.o).mono ?_;rintro e w4 ⟨Ck,pk,ek,Ca,pa,ea,Cf,pf,ef,KB,kd,rfl,G,f7,d6,e9,e8,b3,e7,e4,f5⟩;clear a5 a7 e3;obtain⟨c0,c1,c2,c3⟩:=mP d2.o aA b2.o.head F;simp only at c0 c1 c2 c3;have s:Hid (e2=.yes (dP (cT (bP b ha).body) L)):=aB (by
  rw[b5.o,i5 (by unfold bT;simp only;rw[XN aA,XP (.inr F)])];unfold lA;simp only;rw[XN aA,XN aA,XN aA,XP F])
 obtain⟨U,rfl⟩:∃U:Nat,ha=(U:Int):=⟨ha.toNat,by omega⟩;have e1:=b1.o.entries.len;obtain⟨be,oe,e0,b7,⟨As,ns,cs,Ap,np,cp,Ai,ni,ci,Ac,nc,f8,At,nt,ct,Ab,nb,cb⟩,_,_,_,_,_,_,c6,b0⟩:=b1.o.entries.at_ (k:=U) aA;have b8:bP b (U:Int)=b.entries.getD U default:=by unfold bP;rw[YG]
 rw[<-b8]at b0;simp only at c6;have a6:=aB (fun (W:aAB) (h:ZY w W)=>rP (b:=b) (b0.body.below h) c2 c3);obtain⟨⟨⟨yo,ya,yb⟩,c8,yk⟩,hY⟩:∃y,y=cT (bP b (U:Int)).body:=⟨_,rfl⟩;rw[<-hY]at a6 s;simp only at a6;have f0:U<v.ne:=aA;have d5:(ho==5)=false:=by rw[XY];omega
 have d7:(ho==7)=false:=by rw[XY];omega
 have d1:(ho==1)=false:=by rw[XY];omega
 have d8:(ho==8)=true:=by simp[F]
 have zb:=aT.cell G.o.bk;rw[e0]at zb;have d9:=(G.o.bel.cell (p:=⟨be,oe+U*7+6,I⟩) b7).trans c6;have zn:=aT.cell d6.o;clear F c0 c1 c2 c3 e1 c6 b0 b8 hY b7;go_wp2_with fail;refine (a6.o _ G.o.bel).mono ?_;rintro e w6 ⟨a3,⟨Dk,rk,gk,Da,ra,ga,Df,rf,gf⟩,rfl,c7⟩;have a1:=aQ w6 (Z #[O S yo,O S ya,O S yb,Y Dk rk gk,Y Da ra ga,Y Df rf gf] 85);have a8:=aB ((G.o.below a3).below a1);have a0:=a3.trans (a1.mono a3.size);have d0:Hid (∀q,bM R V0 ((w4.alloc (Z #[O S ho,O S (U:Int),O S hb,Y Ck pk ek,Y Ca pa ea,Y Cf pf ef] 85)).alloc (Z #[O S ho,O S (U:Int),O S hb] 46)) q->q<(((w4.alloc (Z #[O S ho,O S (U:Int),O S hb,Y Ck pk ek,Y Ca pa ea,Y Cf pf ef] 85)).alloc (Z #[O S ho,O S (U:Int),O S hb] 46))).heap.size):=aB (fun q D=>by
  rcases D with D|D
  . have:=HR.o _ D;have:=G.o.bel.size;omega
  exact D.2)
 have b4:=aB (gZ (R:=bM R V0 (w6.alloc (Z #[O S yo,O S ya,O S yb,Y Dk rk gk,Y Da ra ga,Y Df rf gf] 85))) (w:=w6.alloc (Z #[O S yo,O S ya,O S yb,Y Dk rk gk,Y Da ra ga,Y Df rf gf] 85)) (x:=((⟨yo,ya,yb⟩:Nd),c8,yk)) (t:=⟨Dk,rk,gk,Da,ra,ga,Df,rf,gf⟩) (L:=L) (B:=KB) (m:=kl) (d:=kd) (fun q D=>by
  rcases D with D|D
  . have:=HR.o _ D;have:=a8.o.bel.size;omega
  exact D.2) (c7.keep fun q D=>⟨Or.inr ⟨YE G.o.sz D.1,XT D.2 a1.size⟩,fun o=>a1.cell (p:=⟨q,o,I⟩) D.2⟩) (b3.o.keep fun q D=>⟨D.to (XU _) a0.size,fun o=>a0.cell (p:=⟨q,o,I⟩) (d0.o q D)⟩) aA)
 have b9:=aT.new w6 85 #[O S yo,O S ya,O S yb,Y Dk rk gk,Y Da ra ga,Y Df rf gf];have z7:=aT.cell b9;clear a3 a1 a0 c7 zb zn d9 b9;obtain⟨⟨⟨zo,za,zb⟩,c9,zk⟩,hZ⟩:∃z,z=dP ((⟨yo,ya,yb⟩:Nd),c8,yk) L:=⟨_,rfl⟩;rw[<-hZ]at b4 s;go_wp2_with fail;refine (b4.o).mono ?_;rintro e w8 ⟨a9,⟨Ek,sk,fk,Ea,sa,fa,Ef,sf,ff⟩,rfl,c5⟩;have a2:=aB (a8.o.below a9);have d3:Hid (fI (bM R V0 w8) w8 ⟨Ek,sk,fk,Ea,sa,fa,Ef,sf,ff⟩ ((⟨zo,za,zb⟩:Nd),c9,zk)):=aB (c5.keep fun q D=>⟨by
  rcases D with D|D
  . exact D.to (XU _) a9.size
  exact Or.inr ⟨YE a8.o.sz D.1,D.2⟩,fun _=>rfl⟩)
 have zr:=aT.cell a2.o.r;have zf:=aT.frozen a2.o.r;clear a9 c5 z7;go_wp2_with fail;refine XW (v:=.tuple #[J #[O S zo,O S za,O S zb,Y Ek sk fk,Y Ea sa fa,Y Ef sf ff],.bool true,O S 0]) ?_ rfl ?_
 . exact dZ (g:=w.heap.size+1+1) (cK a2.o.r _ _ _ _ _ _) aD
 exact sL (V:=V0) (t:=⟨Ek,sk,fk,Ea,sa,fa,Ef,sf,ff⟩) (y:=((⟨zo,za,zb⟩:Nd),c9,zk)) HR.o aA (by have:=d4.o;omega) a2.o.bel d3.o (.inr (.inr ⟨s.o,rfl,rfl⟩))
theorem TJ(H:uE v b w0 cA cn cc cv gas w R t x)(a2:(bX x).1.1.op=1):yL v b cA cn cc cv gas w R t x:=by
 obtain⟨⟨xo,xa,xb⟩,i1,xk⟩:=x;obtain⟨Ak,nk,ck,Aa,na,ca,Af,nf,cf⟩:=t;obtain⟨g2,ho,ha,hb,k1,hk,L,kl,V0,b4,f3,f0,k0,j3,b2,d4,i7,j7,c4,e8,HR,j1,b1,HX,j2,d3,j4,HT,j5,b5⟩:=kO H;rw[f3]at a2;simp only at a2 c4 f0 b5;unfold yL;rw[b4];clear b4 f3 H;show Calls Tryz.prog 45 #[J #[O S b.vars,Y v.Ao v.no v.co,Y v.Ae v.ne v.ce,O S b.nat,Y v.Ap v.np v.cp],Y cA cn cc,J #[O S xo,O S xa,O S xb,Y Ak nk ck,Y Aa na ca,Y Af nf cf]] w _;go_in;go_upto_region 1 with fail
 clear f0;have i4:=aT.cell c4.o.x;go_wp2_with fail;refine (b5.o).mono ?_;rintro e w4 ⟨Ck,pk,ek,Ca,pa,ea,Cf,pf,ef,KB,kd,rfl,G,j8,c7,e6,i9,d6,i8,i6,j6⟩;clear b5 c4 i4;obtain⟨c0,c1,c2⟩:=rX d4.o.head a2;simp only at c0 c1 c2;obtain⟨F,rfl⟩:∃F:Nat,ha=(F:Int):=⟨ha.toNat,by omega⟩;rw[YG]at c1;have d2:=b1.o.len;have b3:=d3.o.few;obtain⟨bb,oo,h6,h1,hm⟩:=b1.o.mem aA;obtain⟨kx,f2⟩:=aAJ (cn-1-F);obtain⟨A1,n1,j9,A2,n2,h0,_,y2,t2⟩:=hm kx aA;have f9:jZ cv (F:Int)=cv.getD kx []:=by unfold jZ;rw[YG,d2,f2]
 rw[<-f9]at t2;have g0:(jZ cv (F:Int)).length=n2:=t2.len;have y5:=(G.o.bel.cell (p:=⟨bb,oo+kx*2+1,I⟩) h1).trans y2;have k2:IntKind.i64.wrap ((cn:Int)-1)=(cn:Int)-1:=by rw[XV];omega
 have k3:IntKind.i64.wrap ((cn:Int)-1-(F:Int))=(kx:Int):=by rw[XV];omega
 have k4:IntKind.i64.wrap ((F:Int)+1)=((F+1:Nat):Int):=by rw[XV];omega
 have j0:kx<cn:=aA;obtain⟨c6,g7,a3⟩:=aAF g0 (fun (W:aAB) (h:ZY w W)=>(bF.keep t2 (R':=(· < W.heap.size)) fun q D=>⟨XT D h.size,fun o=>h.cell (p:=⟨q,o,I⟩) D⟩:aX W A2 n2 h0 (jZ cv (F:Int)))) (And.intro c1 (And.intro d2 b3));have d5:(ho==5)=false:=by rw[XY];omega
 have d7:(ho==7)=false:=by rw[XY];omega
 have d1:(ho==1)=true:=by simp[a2]
 have zn:=aT.cell c7.o;have e5:=aB a2;clear a2 c0 c2 hm f9 f2 t2 g0 y2 d2 b3 c1;subst h6;by_cases b0:n2=0
 . have d9:((n2:Int)==0)=true:=by simp[b0]
   have HN:Hid (g2=.no):=aB (by
    have h9:=c6.o;have h8:=e5.o;rw[b2.o];refine oT ?_ ?_
    . unfold bT;simp only;rw[XN aA,XN aA,XP h8,h9,b0];decide
    unfold cQ;simp only;rw[XN aA,XN aA])
   have zx:=aT.cell G.o.x;have zr:=aT.cell G.o.r;have zf:=aT.frozen G.o.r;clear b0;go_wp2_with fail;refine XW (v:=.tuple #[J #[O S xo,O S xa,O S xb,Y Ak nk ck,Y Aa na ca,Y Af nf cf],.bool false,O S 0]) ?_ rfl ?_
   . exact dZ (g:=w.heap.size+1+1) (cK G.o.r _ _ _ _ _ _) aD
   exact sL (V:=V0) (t:=⟨Ak,nk,ck,Aa,na,ca,Af,nf,cf⟩) (y:=((⟨xo,xa,xb⟩:Nd),i1,xk)) HR.o aA (by have:=e8.o;omega) G.o.bel e6.o (.inl ⟨HN.o,rfl,rfl⟩)
 have d9:((n2:Int)==0)=false:=by rw[XY];omega
 obtain⟨u,f7,f8,s,h7,_⟩:=vG d3.o (a:=(F:Int)) aA (by have:=a3.o.1;omega) (by have:=c6.o;omega);rw[YG]at s;have a0:Hid (g2=.yes (dP (jD u ((F:Int)+1)) L)):=aB (by
  have h9:=c6.o;have h8:=e5.o;rw[b2.o,i5 (by unfold bT;simp only;rw[XN aA,XN aA,XP h8,h9];exact XR aA)];unfold lA;simp only;rw[XN aA,XN aA,XP h8,f8])
 have e3:=aB (fun (W:aAB) (h:ZY w W)=>rP (g7.o W h) f7 s);have f1:=v4 s (up:=((F+1:Nat):Int)) (by have:=a3.o;omega);have b6:=aB (fun (W:aAB) (R':Nat->Prop) (t:iA) (c8 : ∀q,R' q->q<W.heap.size) (ht:fI R' W t u)=>nU (R:=R') (up:=((F+1:Nat):Int)) (u:=0) c8 ht s.okt.ok s.okt.all aA (by have:=a3.o;omega) (YI 0) (by
  have h2:=fB u.2.2;have h3:=cS u.1 u.2.1 u.2.2;have h4:=s.few;have h5:bL u=bL (u.1,u.2.1,u.2.2):=rfl;omega))
 have c3:=aB (fun (W:aAB) (R':Nat->Prop) (t:iA) (c8 : ∀q,R' q->q<W.heap.size) (ht:fI R' W t u)=>qE (i:=((F+1:Nat):Int)) c8 ht s aA (by have:=a3.o;omega));obtain⟨HH,e9⟩:=aAJ (p8 ((F+1:Nat):Int) u.1 u.2.2 0);rw[<-e9]at f1 b6;have dH:decide (HH>1048576)=false:=XQ aA;rw[show (F:Int)+1=((F+1:Nat):Int) from by omega]at a0;obtain⟨q,D⟩:=aAJ (jD u ((F+1:Nat):Int));rw[<-D]at a0 c3;obtain⟨⟨uo,ua,ub⟩,i0,uk⟩:=u;simp only at e3 b6 c3;clear f7 f8 s h7 f1 e9 D b0;go_wp2_with fail;refine (e3.o _ G.o.bel).mono ?_;rintro e w6 ⟨c9,⟨Dk,rk,gk,Da,ra,ga,Df,rf,gf⟩,rfl,f6⟩;have a8:=aQ w6 (Z #[O S uo,O S ua,O S ub,Y Dk rk gk,Y Da ra ga,Y Df rf gf] 85);have U:=c9.trans (a8.mono c9.size);have a5:=aB (G.o.below U);have e2:Hid (∀q,bM R V0 ((w4.alloc (Z #[O S ho,O S (F:Int),O S hb,Y Ck pk ek,Y Ca pa ea,Y Cf pf ef] 85)).alloc (Z #[O S ho,O S (F:Int),O S hb] 46)) q->q<((w4.alloc (Z #[O S ho,O S (F:Int),O S hb,Y Ck pk ek,Y Ca pa ea,Y Cf pf ef] 85)).alloc (Z #[O S ho,O S (F:Int),O S hb] 46)).heap.size):=aB (fun q D=>by
  rcases D with D|D
  . have:=HR.o _ D;have:=G.o.bel.size;omega
  exact D.2)
 have d8:Hid (eX (bM R V0 (w6.alloc (Z #[O S uo,O S ua,O S ub,Y Dk rk gk,Y Da ra ga,Y Df rf gf] 85))) (w6.alloc (Z #[O S uo,O S ua,O S ub,Y Dk rk gk,Y Da ra ga,Y Df rf gf] 85)) KB kl kd (iP L)):=aB (d6.o.keep fun q D=>⟨D.to (XU _) U.size,fun o=>U.cell (p:=⟨q,o,I⟩) (e2.o q D)⟩);have e7:Hid (fI (bM R V0 (w6.alloc (Z #[O S uo,O S ua,O S ub,Y Dk rk gk,Y Da ra ga,Y Df rf gf] 85))) (w6.alloc (Z #[O S uo,O S ua,O S ub,Y Dk rk gk,Y Da ra ga,Y Df rf gf] 85)) ⟨Dk,rk,gk,Da,ra,ga,Df,rf,gf⟩ ((⟨uo,ua,ub⟩:Nd),i0,uk)):=aB (f6.keep fun q D=>⟨Or.inr ⟨YE G.o.sz D.1,XT D.2 a8.size⟩,fun o=>a8.cell (p:=⟨q,o,I⟩) D.2⟩);have b7:=aB (aT.new w6 85 #[O S uo,O S ua,O S ub,Y Dk rk gk,Y Da ra ga,Y Df rf gf]);have b8:=aB (c7.o.below U c7.o.lt);have z7:=aT.cell b7.o;have i2:=aT.cell b8.o;have a4:Hid (∀(W:aAB),w.heap.size<=W.heap.size->∀q,bM R V0 W q->q<W.heap.size):=aB (fun W hW q D=>by
  rcases D with D|D
  . have:=HR.o _ D;omega
  exact D.2)
 have b9:Hid (∀(W W':aAB),w.heap.size<=W.heap.size->ZY W W'->∀q,bM R V0 W q->bM R V0 W' q/\∀o,W'.cell? ⟨q,o,I⟩=W.cell? ⟨q,o,I⟩):=aB (fun W W' hW hB q D=>⟨D.to (XU _) hB.size,fun o=>hB.cell (p:=⟨q,o,I⟩) (a4.o W hW q D)⟩);obtain⟨⟨qo,qa,qb⟩,g1,qk⟩:=q;clear c9 a8 U f6 zn y5 e2;go_wp2_with fail;refine (b6.o _ _ _ (a4.o _ a5.o.bel.size) e7.o).mono ?_;rintro e w8 ⟨rfl,a1⟩;have a6:=aB (a5.o.below a1);have g9:=aB (e7.o.keep (b9.o _ _ a5.o.bel.size a1));have e0:=aB (d8.o.keep (b9.o _ _ a5.o.bel.size a1));have g4:=aB (b7.o.below a1 b7.o.lt);have g5:=aB (b8.o.below a1 b8.o.lt);have z8:=aT.cell g4.o;have i3:=aT.cell g5.o;clear a1 z7 i2;go_wp2_with fail;refine (c3.o _ _ _ (a4.o _ a6.o.bel.size) g9.o).mono ?_;rintro e w9 ⟨a9,⟨Ek,sk,fk,Ea,sa,fa,Ef,sf,ff⟩,rfl,f4⟩;have c5:=aB (a6.o.below a9);have e1:=aB (e0.o.keep (b9.o _ _ a6.o.bel.size a9));have g6:Hid (fI (bM R V0 w9) w9 ⟨Ek,sk,fk,Ea,sa,fa,Ef,sf,ff⟩ ((⟨qo,qa,qb⟩:Nd),g1,qk)):=aB (f4.keep fun q D=>⟨by
  rcases D with D|D
  . exact D.to (XU _) a9.size
  exact Or.inr ⟨YE a6.o.sz D.1,D.2⟩,fun _=>rfl⟩)
 have e4:=aB (gZ (a4.o _ c5.o.bel.size) g6.o e1.o aA);obtain⟨⟨⟨zo,za,zb⟩,g3,zk⟩,hZ⟩:∃z,z=dP ((⟨qo,qa,qb⟩:Nd),g1,qk) L:=⟨_,rfl⟩;rw[<-hZ]at e4 a0;clear a9 f4 z8 i3 hZ;go_wp2_with fail;refine (e4.o).mono ?_;rintro e wa ⟨d0,⟨Fk,tk,ik,Fa,ta,ja,Ff,tf,jf⟩,rfl,f5⟩;have a7:=aB (c5.o.below d0);have g8:Hid (fI (bM R V0 wa) wa ⟨Fk,tk,ik,Fa,ta,ja,Ff,tf,jf⟩ ((⟨zo,za,zb⟩:Nd),g3,zk)):=aB (f5.keep fun q D=>⟨by
  rcases D with D|D
  . exact D.to (XU _) d0.size
  exact Or.inr ⟨YE c5.o.sz D.1,D.2⟩,fun _=>rfl⟩)
 have zr:=aT.cell a7.o.r;have zf:=aT.frozen a7.o.r;clear d0 f5;go_wp2_with fail;refine XW (v:=.tuple #[J #[O S zo,O S za,O S zb,Y Fk tk ik,Y Fa ta ja,Y Ff tf jf],.bool true,O S 0]) ?_ rfl ?_
 . exact dZ (g:=w.heap.size+1+1) (cK a7.o.r _ _ _ _ _ _) aD
 exact sL (V:=V0) (t:=⟨Fk,tk,ik,Fa,ta,ja,Ff,tf,jf⟩) (y:=((⟨zo,za,zb⟩:Nd),g3,zk)) HR.o aA (by have:=e8.o;omega) a7.o.bel g8.o (.inr (.inr ⟨a0.o,rfl,rfl⟩))
theorem QM(H:uE v b w0 cA cn cc cv gas w R t x)(D:(bX x).1.1.op=5/\(bX x).2.length=0):yL v b cA cn cc cv gas w R t x:=by
 obtain⟨⟨xo,xa,xb⟩,a8,xk⟩:=x;obtain⟨Ak,nk,ck,Aa,na,ca,Af,nf,cf⟩:=t;obtain⟨a7,ho,ha,hb,c6,hk,L,kl,V0,G,a3,a1,c5,a4,z,b2,b3,c3,h,a5,HR,b7,b1,HX,b9,b8,c0,HT,c1,U⟩:=kO H;rw[a3]at D;simp only at D h a1 U;unfold yL;rw[G];clear G a3 H;show Calls Tryz.prog 45 #[J #[O S b.vars,Y v.Ao v.no v.co,Y v.Ae v.ne v.ce,O S b.nat,Y v.Ap v.np v.cp],Y cA cn cc,J #[O S xo,O S xa,O S xb,Y Ak nk ck,Y Aa na ca,Y Af nf cf]] w _;go_in;go_upto_region 1 with fail
 clear a1;have a9:=aT.cell h.o.x;go_wp2_with fail;refine (U.o).mono ?_;rintro e w4 ⟨Ck,pk,ek,Ca,pa,ea,Cf,pf,ef,KB,kd,rfl,F,c4,a6,a0,b6,b4,b5,b0,c2⟩;clear U h a9;obtain⟨D,s⟩:=D;have HN:Hid (a7=.no):=aB (by
  rw[z.o];refine oT ?_ ?_
  . unfold bT;simp only;rw[XP D,s];decide
  unfold cQ;simp only;rw[XN aA,XN aA])
 have a2:kl=0:=a4.o.trans s;have dk:((kl:Int)==0)=true:=by simp[a2]
 have d5:(ho==5)=true:=by simp[D]
 have zx:=aT.cell F.o.x;have zr:=aT.cell F.o.r;have zf:=aT.frozen F.o.r;have zn:=aT.cell a6.o;clear D s a2;go_wp2_with fail;refine XW (v:=.tuple #[J #[O S xo,O S xa,O S xb,Y Ak nk ck,Y Aa na ca,Y Af nf cf],.bool false,O S 0]) ?_ rfl ?_
 . exact dZ (g:=w.heap.size+1+1) (cK F.o.r _ _ _ _ _ _) aD
 exact sL (V:=V0) (t:=⟨Ak,nk,ck,Aa,na,ca,Af,nf,cf⟩) (y:=((⟨xo,xa,xb⟩:Nd),a8,xk)) HR.o aA (by have:=a5.o;omega) F.o.bel a0.o (.inl ⟨HN.o,rfl,rfl⟩)
end Go.Proofs.YtjoddliplahgkaaGreat
