/- Merged: RvO, RvU, WhQ. -/
import Derived.Test.YtjoddliplahgkaaGreatTHighest
namespace Go.Proofs.YtjoddliplahgkaaGreat
set_option linter.unusedVariables false
set_option linter.unusedSimpArgs false
open Go.RowKit
open Go.Value renaming int → O, slice → Z
open Go.IntKind renaming i64 → Y
open Option renaming none → I, some → J
open Go.Obj renaming cells → M
variable {b:Bk}{free:Int}{R:Nat->Prop}{u x:TT}{w:aAB}
section
open Go.Lib renaming hid->aB
theorem QO{tx o:iA}(hR:∀b,R b->b<w.heap.size)(F:fI R w tx x)(D:fI R w o u)(U:nF x)(G:nF u)(sx:bL x<=4096)(su:bL u<=4096):
 Calls Tryz.prog 124 #[.agg (fE tx x.1),.agg (fE o u.1),O Y 0,O Y 0] w (R0 R w (DP (t8 u) 0 x)):=by
 have h:∀y:TT,bL y<=4096->aY y.2.2<=4096:=fun y hy=>by
  obtain⟨n,a,k⟩:=y;have s:=fB k;have h4:=cS n a k;simp only;omega
 have h1:=h x sx;have s:=h u su;refine (KZ ⟨u.1,u.2.1,u.2.2⟩ G.ok G.all (by simp only;omega) (aY x.2.2+1) w R _ _ x.1 x.2.1 x.2.2 0 0 hR F D U.ok U.all (YI 0) (YI 0) aA aA (YL _)).mono ?_;intro e w' z;rw[<-U2 U G];exact fF.tt (x:=(_,_,_)) z
def WH(R:Nat->Prop)(w:aAB)(q:TT×Int)(e:Ending)(w':aAB):Prop:=ZY w w'/\∃t:iA,e=.returned (.tuple #[.agg (fE t q.1.1),O Y q.2])/\fI (bM R w w') w' t q.1
theorem pB{V W:aAB}{g:Nat}{t:iA}{y:TT}{z:Int}(hR:∀b,R b->b<w.heap.size)(F:w.heap.size<=g)(G:g<V.heap.size)(o:ZY w W)(ht:fI (bM R V W) W t y):
 WH R w (y,z) (.returned (.tuple #[.agg (fE t y.1),O Y z])) ((((((W.setCell ⟨g,0,I⟩ (O Y y.1.op)).setCell ⟨g,1,I⟩ (O Y y.1.a)).setCell ⟨g,2,I⟩ (O Y y.1.b)).setCell ⟨g,3,I⟩ (Z t.Ak t.nk t.ck)).setCell ⟨g,4,I⟩ (Z t.Aa t.na t.ca)).setCell ⟨g,5,I⟩ (Z t.Af t.nf t.cf)):=by
 obtain⟨h,ys,D,U⟩:=rV hR F G o ht;injection D with D;injection D with D;refine⟨h,t,rfl,?_⟩;have:ys=[O Y y.1.op,O Y y.1.a,O Y y.1.b,Z t.Ak t.nk t.ck,Z t.Aa t.na t.ca,Z t.Af t.nf t.cf]:=by
  have:=congrArg Array.toList D;simpa using this.symm
 rw[this]at U;exact U
theorem i6{g:Nat}{c0 c1 c2 c3 c4 c5:Value}{D:Array Value}(h:aT w g 85 #[c0,c1,c2,c3,c4,c5])(ht:D.getD 4 undef=.pointer (J ⟨g,0,I⟩)):
 (results Tryz.f80 D).run Tryz.prog w=.ok (.tuple #[.agg #[c0,c1,c2,c3,c4,c5],D.getD 5 undef]) w:=by
 have G:=h.cell;have F:D[4]?.getD undef=.pointer (J ⟨g,0,I⟩):=by rw[<-ht];simp
 simp[results,Tryz.results80,go_sem,F,G]
set_option maxRecDepth 100000 in
set_option maxHeartbeats 8000000 in
theorem qB{tx tu:iA}(hR:∀b,R b->b<w.heap.size)(b6:fI R w tx x)(c0:fI R w tu u)(hx:bO b (free+1) x)(hu:bO b free u)(h0:0<=free)(h1:free<=1000000):
 Calls Tryz.prog 80 #[.agg (fE tx x.1),.agg (fE tu u.1)] w (WH R w (cI x u)):=by
 have fz:∀y:TT,bL y<=4096->aY y.2.2<=4096/\1<=bL y:=fun y hy=>by
  obtain⟨n,a,k⟩:=y;have h2:=fB k;have h4:=cS n a k;simp only;omega
 obtain⟨fx,px⟩:=fz x hx.few;obtain⟨fu,pu⟩:=fz u hu.few;have e1:=hx.few;have e0:=hu.few;obtain⟨t1,t2,t3,t4⟩:=LN hx.okt.ok 0 x.2.2 hx.okt.all;have b9:=RA hx.okt;obtain⟨N,D,d2⟩:∃N D,iI x.1 x.2.2 0=(N,D):=⟨_,_,rfl⟩;rw[d2]at t1 t2 t3 t4 b9;simp only at t1 t2 t3 t4 b9;have z:Hid (cI x u=if 4096<(bL x:Int)+N*((bL u:Int)-1) then (x,9) else (DP (t8 u) 0 x,0)):=aB (by unfold cI;rw[<-b9]);have d6:=v4 hu (up:=D) aA;have c4:=aB (fun (W:aAB) (h:ZY w W)=>nU (R:=R) (up:=D) (u:=0) (fun b hb=>XT (hR b hb) h.size) (c0.below hR h) hu.okt.ok hu.okt.all t3 aA (YI 0) aA);have c7:=aB (fun (W:aAB) (h:ZY w W)=>N7 (R:=R) (u:=0) (fun b hb=>XT (hR b hb) h.size) (b6.below hR h) hx.okt.ok hx.okt.all (YI 0) aA);rw[d2]at c7;have b8:=aB (fun (W:aAB) (h:ZY w W)=>tE (R:=R) (fun b hb=>XT (hR b hb) h.size) (b6.below hR h) aA);have b7:=aB (fun (W:aAB) (h:ZY w W)=>tE (R:=R) (fun b hb=>XT (hR b hb) h.size) (c0.below hR h) aA);have c5:=aB (fun (W:aAB) (h:ZY w W)=>QO (R:=R) (fun b hb=>XT (hR b hb) h.size) (b6.below hR h) (c0.below hR h) hx.okt hu.okt e1 e0);have c8:=aB (fun (W:aAB) (h:ZY w W)=>b6.below hR h);have HR:=aB hR;obtain⟨H,hH⟩:=aAJ (p8 D u.1 u.2.2 0);rw[<-hH]at d6 c4;obtain⟨X,hX⟩:=aAJ (bL x);obtain⟨U,hU⟩:=aAJ (bL u);rw[<-hX]at b8 z px e1;rw[<-hU]at b7 z pu e0;have dH:decide (H>1048576)=false:=XQ aA;have e4:N<=4097:=aA;have e5:N*((U:Int)-1)<=4097*4095:=Int.mul_le_mul e4 aA aA aA;have d7:0<=N*((U:Int)-1):=Int.mul_nonneg t1 aA;have e9:IntKind.i64.wrap ((U:Int)-1)=(U:Int)-1:=by rw[XV];omega
 have d8:IntKind.i64.wrap (N*((U:Int)-1))=N*((U:Int)-1):=by rw[XV];omega
 have d9:IntKind.i64.wrap ((X:Int)+N*((U:Int)-1))=(X:Int)+N*((U:Int)-1):=by rw[XV];omega
 obtain⟨⟨xo,xa,xb⟩,e3,xk⟩:=x;obtain⟨⟨uo,ua,ub⟩,e2,uk⟩:=u;obtain⟨Ak,nk,ck,Aa,na,ca,Af,nf,cf⟩:=tx;obtain⟨Bk,mk,dk,Ba,ma,da,Bf,mf,df⟩:=tu;simp only at c4 c7 b8 b7 c5 c8 z ⊢;clear d2 b9 d6 fz b6 c0 hx hu fx fu px pu hX hU hH e5 d7 t2 t3 t4 hR;have c1:=aB (bS w (M #[O Y xo,O Y xa,O Y xb,Z Ak nk ck,Z Aa na ca,Z Af nf cf] 85) (M #[O Y uo,O Y ua,O Y ub,Z Bk mk dk,Z Ba ma da,Z Bf mf df] 85));have c2:=aB (c1.o.alloc c1.o.size (M #[O Y 0,O Y 0,O Y 0,Z I 0 0,Z I 0 0,Z I 0 0] 85));have d0:Hid (aT (((w.alloc (M #[O Y xo,O Y xa,O Y xb,Z Ak nk ck,Z Aa na ca,Z Af nf cf] 85)).alloc (M #[O Y uo,O Y ua,O Y ub,Z Bk mk dk,Z Ba ma da,Z Bf mf df] 85)).alloc (M #[O Y 0,O Y 0,O Y 0,Z I 0 0,Z I 0 0,Z I 0 0] 85)) w.heap.size 85 #[O Y xo,O Y xa,O Y xb,Z Ak nk ck,Z Aa na ca,Z Af nf cf]):=aB (((aT.new _ _ _).alloc _).alloc _);have c9:Hid (aT (((w.alloc (M #[O Y xo,O Y xa,O Y xb,Z Ak nk ck,Z Aa na ca,Z Af nf cf] 85)).alloc (M #[O Y uo,O Y ua,O Y ub,Z Bk mk dk,Z Ba ma da,Z Bf mf df] 85)).alloc (M #[O Y 0,O Y 0,O Y 0,Z I 0 0,Z I 0 0,Z I 0 0] 85)) (w.heap.size+1) 85 #[O Y uo,O Y ua,O Y ub,Z Bk mk dk,Z Ba ma da,Z Bf mf df]):=aB ((aT.new' aD).alloc _);have d1:Hid (aT (((w.alloc (M #[O Y xo,O Y xa,O Y xb,Z Ak nk ck,Z Aa na ca,Z Af nf cf] 85)).alloc (M #[O Y uo,O Y ua,O Y ub,Z Bk mk dk,Z Ba ma da,Z Bf mf df] 85)).alloc (M #[O Y 0,O Y 0,O Y 0,Z I 0 0,Z I 0 0,Z I 0 0] 85)) (w.heap.size+1+1) 85 #[O Y 0,O Y 0,O Y 0,Z I 0 0,Z I 0 0,Z I 0 0]):=aB (aT.new' aD);go_in;go_wp2_with fail;refine (c7.o _ c2.o).mono ?_;rintro e w3 ⟨rfl,b1⟩;have F:=bY c2 b1;obtain⟨a5,a2,a6⟩:=aAF (d0.o.below b1 d0.o.lt) (c9.o.below b1 c9.o.lt) (d1.o.below b1 d1.o.lt);clear b1 c1 c2 d0 c9 d1;have d4:=aT.cell a2.o;have hcut:N>0\/¬ N>0:=Decidable.em _;rcases hcut with hn|hn;rotate_left
 . have dN:decide (N>0)=false:=XQ hn;clear hn;go_wp2_with fail;have a1:=aB (fun (W:aAB) (h:ZY w3 W)=>(by
    have a:=(a5.o.below h a5.o.lt).cell;have c:=(a2.o.below h a2.o.lt).cell;exact⟨a 0,a 1,a 2,a 3,a 4,a 5,c 0,c 1,c 2,c 3,c 4,c 5⟩:W.cell? ⟨w.heap.size,0,I⟩=J (O Y xo)/\W.cell? ⟨w.heap.size,1,I⟩=J (O Y xa)/\W.cell? ⟨w.heap.size,2,I⟩=J (O Y xb)/\W.cell? ⟨w.heap.size,3,I⟩=J (Z Ak nk ck)/\W.cell? ⟨w.heap.size,4,I⟩=J (Z Aa na ca)/\W.cell? ⟨w.heap.size,5,I⟩=J (Z Af nf cf)/\W.cell? ⟨w.heap.size+1,0,I⟩=J (O Y uo)/\W.cell? ⟨w.heap.size+1,1,I⟩=J (O Y ua)/\W.cell? ⟨w.heap.size+1,2,I⟩=J (O Y ub)/\W.cell? ⟨w.heap.size+1,3,I⟩=J (Z Bk mk dk)/\W.cell? ⟨w.heap.size+1,4,I⟩=J (Z Ba ma da)/\W.cell? ⟨w.heap.size+1,5,I⟩=J (Z Bf mf df)))
   try clear d4
   refine wp_region_held_drew (S:=(fun w'=>w'.cell? ⟨w.heap.size,0,I⟩=J (O Y xo)/\w'.cell? ⟨w.heap.size,1,I⟩=J (O Y xa)/\w'.cell? ⟨w.heap.size,2,I⟩=J (O Y xb)/\w'.cell? ⟨w.heap.size,3,I⟩=J (Z Ak nk ck)/\w'.cell? ⟨w.heap.size,4,I⟩=J (Z Aa na ca)/\w'.cell? ⟨w.heap.size,5,I⟩=J (Z Af nf cf)/\w'.cell? ⟨w.heap.size+1,0,I⟩=J (O Y uo)/\w'.cell? ⟨w.heap.size+1,1,I⟩=J (O Y ua)/\w'.cell? ⟨w.heap.size+1,2,I⟩=J (O Y ub)/\w'.cell? ⟨w.heap.size+1,3,I⟩=J (Z Bk mk dk)/\w'.cell? ⟨w.heap.size+1,4,I⟩=J (Z Ba ma da)/\w'.cell? ⟨w.heap.size+1,5,I⟩=J (Z Bf mf df))) aC ?_ (fun hZ=>?_)
   . (try dsimp only);exact a1.o _ (aU (XS w3.heap.size w3) 1)
   refine aL 0 hZ ?_;refine aL 2 hZ ?_;refine aL 3 hZ ?_;refine r1 1 fun K hK=>?_;go_simp;go_at_call 46
   refine (b8.o _ (F.o.trans ((aU (XS w3.heap.size w3) 1).mono F.o.size))).mono ?_;rintro e w5 ⟨rfl,b3⟩;have a3:=aB ((aU (XS w3.heap.size w3) 1).trans (b3.mono (aU (XS w3.heap.size w3) 1).size));clear b3;go_wp2_with fail;refine hK.o _ _ (by exact a1.o _ a3.o) fun hZ=>?_;clear hK K;try simp only[p7]
   refine r1 4 fun K hK=>?_;go_simp;go_at_call 46
   refine (b7.o _ (F.o.trans (a3.o.mono F.o.size))).mono ?_;rintro e w6 ⟨rfl,b4⟩;have a9:=bY a3 b4;clear b4;go_wp2_with fail;refine hK.o _ _ (by exact a1.o _ a9.o) fun hZ=>?_;clear hK K;try simp only[p7]
   refine aL 5 hZ ?_;refine aL 6 hZ ?_;refine aL 7 hZ ?_;refine aL 8 hZ ?_;refine wpAnyH_done aC ?_ _;have b0:=a9;clear a1;obtain⟨a0,G⟩:=aAC (F.o.trans (b0.o.mono F.o.size)) (a6.o.below b0.o a6.o.lt);have d5:=aT.cell G.o;have d3:=aT.frozen G.o;clear d8 d9;generalize (X:Int)+N*((U:Int)-1)=Q at *;by_cases s:4096<Q
   . have dB:decide (Q>4096)=true:=XR s;have a4:=aB (z.o.trans (XP s));go_wp2_with fail;refine XW (v:=.tuple #[.agg #[O Y xo,O Y xa,O Y xb,Z Ak nk ck,Z Aa na ca,Z Af nf cf],O Y 9]) ?_ rfl ?_
     . exact i6 (g:=w.heap.size+1+1) (cK G.o _ _ _ _ _ _) aD
     rw[a4.o];exact pB (V:=w6) (t:=⟨Ak,nk,ck,Aa,na,ca,Af,nf,cf⟩) HR.o aA G.o.lt a0.o ((c8.o _ a0.o).keep fun b hb=>⟨Or.inl hb,fun o=>rfl⟩)
   have dB:decide (Q>4096)=false:=XQ s;have a4:=aB (z.o.trans (XN s));go_wp2_with fail;refine (c5.o _ a0.o).mono ?_;rintro e w8 ⟨a8,⟨Ck,pk,ek,Ca,pa,ea,Cf,pf,ef⟩,rfl,b5⟩;generalize DP (t8 ((⟨uo,ua,ub⟩:Nd),e2,uk)) 0 ((⟨xo,xa,xb⟩:Nd),e3,xk)=y at *;obtain⟨⟨yo,ya,yb⟩,e6,yk⟩:=y;have c3:=bY a0 a8;have a7:=aB (G.o.below a8 G.o.lt);have e8:=aT.cell a7.o;have e7:=aT.frozen a7.o;have c6:=aB b5;clear a8 b5 d5 d3;go_wp2_with fail;refine XW (v:=.tuple #[.agg #[O Y yo,O Y ya,O Y yb,Z Ck pk ek,Z Ca pa ea,Z Cf pf ef],O Y 0]) ?_ rfl ?_
   . exact i6 (g:=w.heap.size+1+1) (cK a7.o _ _ _ _ _ _) aD
   rw[a4.o];exact pB (V:=w6) (t:=⟨Ck,pk,ek,Ca,pa,ea,Cf,pf,ef⟩) HR.o aA G.o.lt c3.o c6.o
 have dN:decide (N>0)=true:=XR hn;clear hn;go_wp2_with fail;refine (c4.o _ F.o).mono ?_;rintro e w4 ⟨rfl,b2⟩
 replace a5:=aB (a5.o.below b2 a5.o.lt)
 replace a2:=aB (a2.o.below b2 a2.o.lt)
 replace a6:=aB (a6.o.below b2 a6.o.lt)
 replace F:=bY F b2
 clear b2 d4;clear w3;have⟨w3,hw34⟩:∃v,v=w4:=⟨_,rfl⟩;subst hw34;go_wp2_with fail;have a1:=aB (fun (W:aAB) (h:ZY w3 W)=>(by
  have a:=(a5.o.below h a5.o.lt).cell;have c:=(a2.o.below h a2.o.lt).cell;exact⟨a 0,a 1,a 2,a 3,a 4,a 5,c 0,c 1,c 2,c 3,c 4,c 5⟩:W.cell? ⟨w.heap.size,0,I⟩=J (O Y xo)/\W.cell? ⟨w.heap.size,1,I⟩=J (O Y xa)/\W.cell? ⟨w.heap.size,2,I⟩=J (O Y xb)/\W.cell? ⟨w.heap.size,3,I⟩=J (Z Ak nk ck)/\W.cell? ⟨w.heap.size,4,I⟩=J (Z Aa na ca)/\W.cell? ⟨w.heap.size,5,I⟩=J (Z Af nf cf)/\W.cell? ⟨w.heap.size+1,0,I⟩=J (O Y uo)/\W.cell? ⟨w.heap.size+1,1,I⟩=J (O Y ua)/\W.cell? ⟨w.heap.size+1,2,I⟩=J (O Y ub)/\W.cell? ⟨w.heap.size+1,3,I⟩=J (Z Bk mk dk)/\W.cell? ⟨w.heap.size+1,4,I⟩=J (Z Ba ma da)/\W.cell? ⟨w.heap.size+1,5,I⟩=J (Z Bf mf df)))
 try clear d4
 refine wp_region_held_drew (S:=(fun w'=>w'.cell? ⟨w.heap.size,0,I⟩=J (O Y xo)/\w'.cell? ⟨w.heap.size,1,I⟩=J (O Y xa)/\w'.cell? ⟨w.heap.size,2,I⟩=J (O Y xb)/\w'.cell? ⟨w.heap.size,3,I⟩=J (Z Ak nk ck)/\w'.cell? ⟨w.heap.size,4,I⟩=J (Z Aa na ca)/\w'.cell? ⟨w.heap.size,5,I⟩=J (Z Af nf cf)/\w'.cell? ⟨w.heap.size+1,0,I⟩=J (O Y uo)/\w'.cell? ⟨w.heap.size+1,1,I⟩=J (O Y ua)/\w'.cell? ⟨w.heap.size+1,2,I⟩=J (O Y ub)/\w'.cell? ⟨w.heap.size+1,3,I⟩=J (Z Bk mk dk)/\w'.cell? ⟨w.heap.size+1,4,I⟩=J (Z Ba ma da)/\w'.cell? ⟨w.heap.size+1,5,I⟩=J (Z Bf mf df))) aC ?_ (fun hZ=>?_)
 . (try dsimp only);exact a1.o _ (aU (XS w3.heap.size w3) 1)
 refine aL 0 hZ ?_;refine aL 2 hZ ?_;refine aL 3 hZ ?_;refine r1 1 fun K hK=>?_;go_simp;go_at_call 46
 refine (b8.o _ (F.o.trans ((aU (XS w3.heap.size w3) 1).mono F.o.size))).mono ?_;rintro e w5 ⟨rfl,b3⟩;have a3:=aB ((aU (XS w3.heap.size w3) 1).trans (b3.mono (aU (XS w3.heap.size w3) 1).size));clear b3;go_wp2_with fail;refine hK.o _ _ (by exact a1.o _ a3.o) fun hZ=>?_;clear hK K;try simp only[p7]
 refine r1 4 fun K hK=>?_;go_simp;go_at_call 46
 refine (b7.o _ (F.o.trans (a3.o.mono F.o.size))).mono ?_;rintro e w6 ⟨rfl,b4⟩;have a9:=bY a3 b4;clear b4;go_wp2_with fail;refine hK.o _ _ (by exact a1.o _ a9.o) fun hZ=>?_;clear hK K;try simp only[p7]
 refine aL 5 hZ ?_;refine aL 6 hZ ?_;refine aL 7 hZ ?_;refine aL 8 hZ ?_;refine wpAnyH_done aC ?_ _;have b0:=a9;clear a1;obtain⟨a0,G⟩:=aAC (F.o.trans (b0.o.mono F.o.size)) (a6.o.below b0.o a6.o.lt);have d5:=aT.cell G.o;have d3:=aT.frozen G.o;clear d8 d9;generalize (X:Int)+N*((U:Int)-1)=Q at *;by_cases s:4096<Q
 . have dB:decide (Q>4096)=true:=XR s;have a4:=aB (z.o.trans (XP s));go_wp2_with fail;refine XW (v:=.tuple #[.agg #[O Y xo,O Y xa,O Y xb,Z Ak nk ck,Z Aa na ca,Z Af nf cf],O Y 9]) ?_ rfl ?_
   . exact i6 (g:=w.heap.size+1+1) (cK G.o _ _ _ _ _ _) aD
   rw[a4.o];exact pB (V:=w6) (t:=⟨Ak,nk,ck,Aa,na,ca,Af,nf,cf⟩) HR.o aA G.o.lt a0.o ((c8.o _ a0.o).keep fun b hb=>⟨Or.inl hb,fun o=>rfl⟩)
 have dB:decide (Q>4096)=false:=XQ s;have a4:=aB (z.o.trans (XN s));go_wp2_with fail;refine (c5.o _ a0.o).mono ?_;rintro e w8 ⟨a8,⟨Ck,pk,ek,Ca,pa,ea,Cf,pf,ef⟩,rfl,b5⟩;generalize DP (t8 ((⟨uo,ua,ub⟩:Nd),e2,uk)) 0 ((⟨xo,xa,xb⟩:Nd),e3,xk)=y at *;obtain⟨⟨yo,ya,yb⟩,e6,yk⟩:=y;have c3:=bY a0 a8;have a7:=aB (G.o.below a8 G.o.lt);have e8:=aT.cell a7.o;have e7:=aT.frozen a7.o;have c6:=aB b5;clear a8 b5 d5 d3;go_wp2_with fail;refine XW (v:=.tuple #[.agg #[O Y yo,O Y ya,O Y yb,Z Ck pk ek,Z Ca pa ea,Z Cf pf ef],O Y 0]) ?_ rfl ?_
 . exact i6 (g:=w.heap.size+1+1) (cK a7.o _ _ _ _ _ _) aD
 rw[a4.o];exact pB (V:=w6) (t:=⟨Ck,pk,ek,Ca,pa,ea,Cf,pf,ef⟩) HR.o aA G.o.lt c3.o c6.o
end
theorem P4{t:iA}{h:TT}(ht:fI R w t h)(F:h.1.op=12)(D:nF h)(i:Nat):fI R w ⟨t.Ak,t.nk,t.ck,I,0,0,t.Af,t.nf,t.cf⟩ (eL h i):=by
 have ha:h.2.1=[]:=by
  have:=D.at_;unfold iU at this;rw[XN aA]at this;exact this
 have e:(eL h i).2.1=[]:=ha;unfold fI;rw[e];exact⟨_,_,_,rfl,⟨_,_,_,rfl,ht.kids⟩,gE.nil R w,⟨_,_,_,rfl,ht.funs⟩⟩
theorem TQ(h:(cI x u).2≠0):(cI x u).1=x:=by
 unfold cI at h ⊢;split
 . rfl
 rename_i D
 rw[XN D]at h;exact absurd rfl h
theorem oD{g:Nat}{c0 c1 c2 c3 c4 c5:Value}{D:Array Value}(h:aT w g 85 #[c0,c1,c2,c3,c4,c5])(ht:D.getD 2 undef=.pointer (J ⟨g,0,I⟩)):
 (results Tryz.f85 D).run Tryz.prog w=.ok (.tuple #[.agg #[c0,c1,c2,c3,c4,c5],D.getD 3 undef]) w:=by
 have G:=h.cell;have F:D[2]?.getD undef=.pointer (J ⟨g,0,I⟩):=by rw[<-ht];simp
 simp[results,Tryz.results85,go_sem,F,G]
theorem lB(h0:0<=free)(h1:free<=1000000)(hx:bO b (free+1) x)(hu:bO b free u):
 xZ (aW x) (aW u) (min 0 1048577)/\jP (aW x) (aW u) 0=(if (cI x u).2=0 then aW (cI x u).1 else [],(cI x u).2)/\((cI x u).2=0->bO b free (cI x u).1):=by
 have hT:=hx.rt;have hU:=hu.rt;have a6:=hu.okt;have hw:=hx.okt.one;have a8:=hx.low;have s:=hu.low;have a9:=hu.nod;have b8:=hx.nod;have c1:=hT.few;have b7:=hU.few;obtain⟨n,a,k⟩:=x;obtain⟨G,o,F⟩:=u;simp only at a8 s hw;have a3:aW (n,a,k)=row (.cons [] n a k .nil):=by simp[row,aW]
 have hm:min (0:Int) 1048577=0:=by decide
 have hz:aR 0 0 ((0:Nat):Int)=0:=by decide
 have a4:∀j:Int,0<=aR 0 0 j/\aR 0 0 j<=4:=fun j=>by
  rw[mN aE aE aE aE];omega
 have b1:UK (G,o,F) 17000:=fun c b2 c2=>by
  have hW:=a6.one;have hl:((row (.cons [] G o F .nil)).length:Int)<=4096:=by
   have:row (.cons [] G o F .nil)=aW (G,o,F):=by simp[row,aW]
   rw[this];omega
  have h2:=uX (B:=free) (up:=c) b2 0 0 a4 0 0 _ _ hW (by
   rw[eK,hz,YQ];simp only;rw[s];rfl) (by simp only;omega)
  rw[cZ.G_cons,hz,YQ,YC]at h2;exact h2.1
 have b6:4*((row (.cons [] n a k .nil)).length:Int)<=17000:=by rw[<-a3];omega
 have hD:(pS ⟨G,o,F⟩ 0).D 0 0 0 0 () (.cons [] n a k .nil):=QD b1 0 0 a4 0 0 _ _ hw aA aA;have hE:=CY (G,o,F) 0 0 0 0 _ (tI _ _ hw);have a7:dI k:=by
  have:=rI hT.pp;exact this.2.1
 have b4:=OZ (x:=0) hx.okt.ok a7;have c3:=fB k;have b5:1+a.length+(row k).length<=4096:=by have:=hx.few;rwa [cS]at this
 have b0:¬ (0<qR 0 n k/\nI (fun v b=>decide (b<=v)&&decide (1048576<v-b+0+MO 0 n k)) 0 G F=true):=fun hh=>by
  have h2:=oQ (p:=fun v z=>decide (free<=v-z)) (q:=fun v b=>decide (b<=v)&&decide (1048576<v-b+0+MO 0 n k)) (c:=0) (fun v z hh=>by
   simp only[YC,YJ]at hh ⊢;simp only at b4;omega) (a:=0) s
  rw[hh.2]at h2;cases h2
 refine⟨?_,?_⟩
 . rw[hm];unfold xZ;rw[hT.pp,hU.pp];simp only;rw[cZ.D_cons,hz,YQ]at hD;exact hD.1
 have hF:(pS ⟨G,o,F⟩ 0).E1 0 () n a k=row (y8 (t8 (G,o,F)) 0 0 0 0 (.cons [] n a k .nil)):=by
  rw[<-hE,cZ.E_cons,hz,YQ];simp[cZ.E]
 have a5:=Q3 a6 b1 0 0 a4 0 0 _ _ hw aA aA;have a1:=JP (G,o,F) 0 0 0 0 _ (tI _ _ hw);have b3:BU 0 0 0 0 0 (.cons [] n a k .nil)=qR 0 n k:=by
  simp only[BU,qR,hz,YQ,Int.sub_zero]
 rw[b3,<-a3]at a1;have c0:jP (aW (n,a,k)) (aW (G,o,F)) 0=if 4096<(bL (n,a,k):Int)+qR 0 n k*((bL (G,o,F):Int)-1) then ([],9) else ((pS ⟨G,o,F⟩ 0).E1 0 () n a k,0):=by
  unfold jP;rw[XP hT.shape,XP hU.shape,XN aA,hm];unfold tF;rw[hT.pp,hU.pp];simp only;rw[XN b0]
 rw[c0];unfold cI;simp only;by_cases U:4096<(bL (n,a,k):Int)+qR 0 n k*((bL (G,o,F):Int)-1)
 . rw[XP U,XP U];exact⟨rfl,fun h=>by cases h⟩
 rw[XN U,XN U];have a0:=Q1 (u:=(G,o,F)) h0 s 0 0 (fun j=>(a4 j).1) 0 0 _ (tI _ _ hw) (GV _ _ hw) aA (by
  rw[eK,hz,YQ,a8];rfl)
 have a2:=xX (u:=(G,o,F)) (fun m=>cP b b.entries.length (-1) m=true) (fun m h=>AB h) (fun m hm=>a9 m hm) 0 0 0 0 (.cons [] n a k .nil) (fun m hm=>b8 m (by rw[a3];exact hm));rw[hF];rw[lC]at a5 a0 a2 a1 ⊢;rw[hz,YQ]at a5 a0 a2 a1 ⊢;generalize DP (t8 (G,o,F)) 0 (n,a,k)=y at *;have e0:y8 (t8 (G,o,F)) 0 0 (0+1) 0 .nil=.nil:=rfl;rw[e0]at a5 a0 a2 a1 ⊢;have b9:row (.cons [] y.1 y.2.1 y.2.2 .nil)=aW y:=by simp[row,aW]
 rw[b9]at a2 a1 ⊢;refine⟨by simp,fun _=>⟨IN a5 (by simp[bH]),?_,?_,a2⟩⟩
 . show (aW y).length<=4096;have e1:bL (n,a,k)=(aW (n,a,k)).length:=rfl;rw[e1]at U;omega
 rw[eK,hz,YQ,ZG]at a0;exact a0.1
theorem tH{up:Int}(h:bO b free u)(o:0<=up)(h1:free+up<=1000000):bO b (free+up) (jD u up)/\iE (aW u) up 0=(aW (jD u up),0):=by
 have F:=h.rt;have U:min (0:Int) 1048577=0:=by decide
 have hz:aR 0 0 ((0:Nat):Int)=0:=by decide
 have hg:(jT up 0).G1 0 () u.1 u.2.2=true:=by
  have hl:((row (.cons [] u.1 u.2.1 u.2.2 .nil)).length:Int)<=4096:=by
   have G:=h.few;have h3:row (.cons [] u.1 u.2.1 u.2.2 .nil)=aW u:=by simp[row,aW]
   rw[h3];have h4:(aW u).length<=4096:=G;omega
  have G:=uX (B:=free) (up:=up) o 0 0 (fun j=>by rw[mN aE aE aE aE];omega) 0 0 _ _ h.okt.one (by
   rw[eK,hz,YQ,h.low];rfl) aA
  rw[cZ.G_cons,hz,YQ,YC]at G;exact G.1
 have D:row (uM up 0 0 0 0 0 (.cons [] u.1 u.2.1 u.2.2 .nil))=aW (jD u up):=by
  rw[uW];simp[row,aW,jD]
 refine⟨⟨RG h.okt o hg,by rw[RE];exact h.few,?_,fun m U=>?_⟩,?_⟩
 . cases he:nI (fun x z=>decide (free+up<=x-z)) 0 (jD u up).1 (jD u up).2.2 with
   | false=>rfl
   | true =>
    have e1:oP (fun x z=>decide (free+up<=x-z)) 0 0 0 0 (uM up 0 0 0 0 0 (.cons [] u.1 u.2.1 u.2.2 .nil))=true:=by
     rw[uW,eK,hz,YQ];unfold jD at he;rw[he];rfl
    have e2:=IA 0 0 0 0 _ e1 o;rw[eK,hz,YQ,h.low]at e2;cases e2
 . rw[<-D]at U;rcases DE 0 0 0 0 _ m U with s|s
   . exact h.nod m (by simpa[row,aW] using s)
   exact AB s
 unfold iE;rw[XP F.shape,XN aA];unfold tV;rw[F.pp,U];simp only;rw[XP hg,FD];rfl
structure gG (b:Bk) (cv:aAA):Prop where
 few:cv.length<=990000
 vals:∀k,k<cv.length->cv.getD k []=[]\/∃x,cv.getD k []=aW x/\bO b (k:Int) x
theorem x8(h:bO b free x):cT (aW x)=x:=BE h.rt
theorem iH(x:TT):0<(aW x).length:=by simp[aW]
theorem dO{i:Nat}{y:TT}(h:(bH x.2.2)[i]? = J y):eM x i=y:=by
 unfold eM;rw[YD,h];rfl
theorem jR{i:Nat}(h:i<(bH x.2.2).length):(bH x.2.2)[i]? = J (eM x i):=by
 rw[YB h,dO (YB h)]
theorem iD{α:Type}{L:List α}{i:Nat}(h:i<L.length)(d:α):L.getD i d∈L:=by
 rw[YD,YB h];exact ZQ h
theorem lX:∀{L:List TT} {a:TT},a∈L->bL a<cB L
 | x::r,a,h=>by
  simp only[cB];rcases YV.1 h with rfl|h
  . omega
  . have:=lX h;omega
theorem sB:∀(L:List TT)(i:Nat)(p d:TT),i<L.length->cB (L.set i p)+bL (L.getD i d)=cB L+bL p
 | [],i,p,d,h=>absurd h aD
 | x::r,0,p,d,_=>by simp only[List.set_cons_zero,cB,List.getD_cons_zero];omega
 | x::r,i+1,p,d,h=>by
  simp only[List.set_cons_succ,cB,List.getD_cons_succ];have:=sB r i p d (by simpa using h);omega
theorem pW:∀(L:List TT)(i:Nat),cB (L.drop i)<=cB L
 | [],i=>by simp[cB]
 | x::r,0=>by simp
 | x::r,i+1=>by
  simp only[List.drop_succ_cons,cB];have:=pW r i;omega
theorem F9{b:Bk}{free:Int}{h:TT}(G:bO b free h)(D:h.1.op=12)(U:0<=free)(o:free<=990000):∀(i:Nat)(x y:TT),(i:Int)<=h.1.b->bO b (free+i) x->tG h i x=J y->bO b free y
 | 0,x,y,_,hx,he=>by
  injection he with he;subst he;simpa using hx
 | i+1,x,y,hi,hx,he=>by
  have z:h.1.b<=4:=by
   have F:=G.okt.ok;simp only[eW,YC]at F;have a0:=aV.1 F.1.1;omega
  have hu:=tH (sJ G D (i:=i) aA) (up:=(i:Int)) aA aA;have hs:=lB (b:=b) (free:=free+i) (x:=x) (u:=jD (eL h i) (i:Int)) aA aA (by
   have e:free+((i+1:Nat):Int)=free+i+1:=aA;rw[<-e];exact hx) hu.1
  simp only[tG]at he;split at he
  . rename_i s
    exact F9 G D U o i _ y aA (hs.2.2 s) he
  . cases he
theorem pX(D:x.1.op=12)(i:Nat):aR x.1.op x.1.b ((2*i+1:Nat):Int)=x.1.b:=by
 unfold aR;rw[XN aA,XP aA]
theorem x9{h y:TT}(F:bO b free h)(D:h.1.op=12)(U:0<=free)(o:free<=990000)(he:rW h=J y):bO b free y:=by
 obtain⟨s,z,p3,p4,p5⟩:=fN F.okt D;have G:=F.kid (jR (x:=h) (i:=2*h.1.a.toNat+1) aA);rw[pX D]at G;unfold rW at he;exact F9 F D U o _ _ y aA (by rw[show ((h.1.b.toNat:Nat):Int)=h.1.b from by omega];exact G) he
theorem jF{n:Nd}{i:Int}(h:(n.op=5/\i=1)\/(n.op=7/\i=2)):aR n.op n.b i=1:=by
 unfold aR;rw[XP aA]
theorem eQ{n:Nd}{i:Int}(h:(n.op=5/\i=0)\/(n.op=7/\i<2)\/n.op=11):aR n.op n.b i=0:=by
 unfold aR;rw[XN aA,XN aA]
theorem vC(D:0<=free)(U:free<=990000)(G:bO b (free+1) x)(F:bO b free u)(he:(cI x u).2=0):bO b free (cI x u).1:=(lB D aA G F).2.2 he
theorem rX{cv:aAA}{f:TT}(F:bO b (cv.length:Int) f)(G:f.1.op=1):0<=f.1.a/\f.1.a.toNat<cv.length/\f.1.a<=1048576:=by
 have U:=(nO F.low).1 G;rw[YM]at U;have D:=F.okt.ok;simp only[eW,YC]at D;have h:=fZ D.1.1;omega
theorem vG{cv:aAA}(G:gG b cv){a:Int}(o:0<=a)(s:a.toNat<cv.length)(D:0<(jZ cv a).length):∃x,jZ cv a=aW x/\cT (jZ cv a)=x/\bO b ((cv.length-1-a.toNat:Nat):Int) x/\bO b (cv.length:Int) (jD x (a+1))/\iE (aW x) (a+1) 0=(aW (jD x (a+1)),0):=by
 unfold jZ at D ⊢;have U:=G.few;rcases G.vals (cv.length-1-a.toNat) aA with h|⟨x,hx,hfx⟩
 . rw[h]at D;cases D
 have F:=tH hfx (up:=a+1) aA aA;have e:((cv.length-1-a.toNat:Nat):Int)+(a+1)=(cv.length:Int):=aA;rw[e]at F;exact⟨x,hx,by rw[hx];exact x8 hfx,hfx,F.1,F.2⟩
theorem mP(z:bU b=0)(o:0<=free){f:TT}(h:bO b free f)(s:f.1.op=8):0<=f.1.a/\f.1.a<(b.entries.length:Int)/\(bP b f.1.a).body=aW (cT (bP b f.1.a).body)/\bO b free (cT (bP b f.1.a).body):=by
 have F:=h.nod f.1 (by simp[aW]);unfold cP at F;rw[XN aA,XP s,YC,YJ,beq_iff_eq]at F;have G:=h.okt.ok;simp only[eW,YC]at G;have U:=fZ G.1.1;obtain⟨e,D⟩:=IC (OR z U.1 F.1 F.2);exact⟨U.1,F.1,e,D.mono o⟩
theorem lJ{cv:aAA}(hr:bU b=0)(hc:gG b cv){f y:Fc}(F:dM b (cv.length:Int) f)(D:bT b cv f=true)(h:jJ b cv f=J y):dM b (cv.length:Int) y/\dA y<=4096:=by
 have a3:=hc.few;unfold bT at D;unfold jJ at h;by_cases c5:f.1.1.op=5
 . rw[XP c5]at D h;rw[YJ]at D;obtain⟨p,q,s⟩:=kQ F.head.okt (.inr (.inl c5));have hq:=F.head.kid (i:=1) (by rw[s];rfl);rw[dO (i:=1) (by rw[s];rfl)]at h;have a0:aR f.1.1.op f.1.1.b ((1:Nat):Int)=1:=jF (.inl ⟨c5,rfl⟩);rw[a0]at hq;have ha:=F.args _ (iD D (default,[],.nil));split at h
   . rename_i h9
     obtain⟨g1,_,U,_⟩:=kS (vC aA aA hq ha h9) (fun a ha=>F.args a (List.mem_of_mem_drop ha)) h;exact⟨g1,U⟩
   cases h
 rw[XN c5]at D h;by_cases c7:f.1.1.op=7
 . rw[XP c7]at h;obtain⟨p,q,r,s⟩:=mU F.head.okt c7;have hq:=F.head.kid0 (i:=1) (by rw[s];rfl) (eQ (.inr (.inl ⟨c7,by decide⟩)));have hs:=F.head.kid (i:=2) (by rw[s];rfl);have a0:aR f.1.1.op f.1.1.b ((2:Nat):Int)=1:=jF (.inr ⟨c7,rfl⟩);rw[a0]at hs;rw[dO (i:=1) (by rw[s];rfl),dO (i:=2) (by rw[s];rfl)]at h;split at h
   . rename_i h9
     obtain⟨g1,_,U,_⟩:=kS (vC aA aA hs hq h9) F.args h;exact⟨g1,U⟩
   cases h
 rw[XN c7]at h;by_cases c8:f.1.1.op=8
 . rw[XN aA,XP c8]at h;obtain⟨_,_,_,o⟩:=mP hr aA F.head c8;obtain⟨g1,_,U,_⟩:=kS o F.args h;exact⟨g1,U⟩
 rw[XN aA]at D;by_cases c1:f.1.1.op=1
 . rw[XP c1]at D h;rw[YJ]at D;obtain⟨v1,v2,_⟩:=rX F.head c1;obtain⟨x,_,ex,_,o,_⟩:=vG hc v1 v2 D;rw[ex]at h;obtain⟨g1,_,U,_⟩:=kS o F.args h;exact⟨g1,U⟩
 rw[XN c1,XN c8]at h;rw[XN c1]at D;by_cases G:f.1.1.op=11
 . rw[XP G]at D h;obtain⟨p,q,br,s,a4⟩:=eT F.head.okt G;have hq:=F.head.kid0 (i:=1) (by rw[s];rfl) (eQ (.inr (.inr G)));rw[dO (i:=1) (by rw[s];rfl)]at D h;unfold fA at D;simp only[YC,beq_iff_eq,YJ]at D;obtain⟨m1,_,m3,_⟩:=D;have hs:=lQ hq;have a5:=CA hs.head.okt m1;have a2:=F.head.kid0 (jR (x:=f.1) (i:=2+(bX q).1.1.b.toNat) (by rw[s];simp only[YA];omega)) (eQ (.inr (.inr G)));obtain⟨g1,_,U,_⟩:=kS a2 (fun a ha=>by
    rcases YW.1 ha with ha|ha
    . exact hs.args a (List.mem_of_mem_drop ha)
    exact F.args a ha) h
   exact⟨g1,U⟩
 rw[XN G]at D h;by_cases a1:f.1.1.op=12
 . cases hu:rW f.1 with
   | none=>rw[hu]at h;cases h
   | some z =>
    rw[hu]at h;obtain⟨g1,_,U,_⟩:=kS (x9 F.head a1 aA aA hu) F.args h;exact⟨g1,U⟩
 rw[XN a1]at D;cases D
theorem gU{f:Fc}(G:dM b free f){p:TT}(h:cQ f=J p):bO b free p/\bL p<dA f:=by
 unfold cQ at h;split at h
 . rename_i D
   injection h with h;subst h;obtain⟨p,q,br,U,o⟩:=eT G.head.okt D;have z:=G.head.kid0 (i:=1) (by rw[U];rfl) (eQ (.inr (.inr D)));rw[dO (i:=1) (by rw[U];rfl)];refine⟨z,?_⟩;have F:q∈bH f.1.2.2:=by rw[U];simp
   have:=oH F;have e:bL f.1=1+f.1.2.1.length+(row f.1.2.2).length:=cS f.1.1 f.1.2.1 f.1.2.2;unfold dA;omega
 split at h
 . split at h
   . rename_i s
     injection h with h;subst h;have F:=iD s (default,[],.nil);refine⟨G.args _ F,?_⟩;have:=lX F;unfold dA;omega
   cases h
 cases h
theorem mH{p q:List Nd}{n1 n2:Nd}{a1 a2:List Nd}{k1 k2 r:Fo}(t:TT):gB (.cons p n1 a1 k1 (.cons q n2 a2 k2 r)) t=.cons p n1 a1 k1 (.cons q t.1 t.2.1 t.2.2 r):=rfl
theorem jA{f:Fc}(U:dM b free f){p G:TT}(h:cQ f=J p)(s:bO b free G)(hs:dA f+bL G<=4096+bL p):dM b free (dW f G)/\dA (dW f G)+bL p=dA f+bL G:=by
 unfold cQ at h;unfold dW;split at h
 rotate_left
 . split at h
   . rename_i F a6
     rw[XN F];split at h
     . rename_i hl
       injection h with h;subst h;have e:=sB f.2 (dG f.1).toNat G (default,[],.nil) hl;refine⟨⟨U.head,U.ne,fun y hy=>?_⟩,?_⟩
       . rcases List.mem_or_eq_of_mem_set hy with hy|rfl
         . exact U.args y hy
         exact s
       unfold dA;simp only;omega
     cases h
   cases h
 rename_i F
 rw[XP F];injection h with h;subst h;obtain⟨⟨n,a,k⟩,args⟩:=f;have z:=U.head.okt.wf;obtain⟨u,q,br,hk,a7⟩:=eT U.head.okt F;have a3:eM (n,a,k) 1=q:=dO (i:=1) (by rw[hk];rfl);simp only at a3 z F;rw[a3]at hs ⊢
 match k,hk with
 | .cons pr n1 a1 k1 (.cons qr n2 a2 k2 r),hk =>
  simp only[bH,ZI]at hk;obtain⟨_,rfl,_⟩:=hk;have a5:bL (n,a,gB (.cons pr n1 a1 k1 (.cons qr n2 a2 k2 r)) G)+bL (n2,a2,k2)=bL (n,a,.cons pr n1 a1 k1 (.cons qr n2 a2 k2 r))+bL G:=by
   have e1:bL (n,a,gB (.cons pr n1 a1 k1 (.cons qr n2 a2 k2 r)) G)=1+a.length+(pr.length+bL (n1,a1,k1)+(qr.length+bL G+(row r).length)):=by
    rw[mH,cS,eG,eG]
   have e2:bL (n,a,.cons pr n1 a1 k1 (.cons qr n2 a2 k2 r))=1+a.length+(pr.length+bL (n1,a1,k1)+(qr.length+bL (n2,a2,k2)+(row r).length)):=by
    rw[cS,eG,eG]
   rw[e1,e2];omega
  have a4:dA ((n,a,.cons pr n1 a1 k1 (.cons qr n2 a2 k2 r)),args)=bL (n,a,.cons pr n1 a1 k1 (.cons qr n2 a2 k2 r))+cB args:=rfl;have a0:dA ((n,a,gB (.cons pr n1 a1 k1 (.cons qr n2 a2 k2 r)) G),args)=bL (n,a,gB (.cons pr n1 a1 k1 (.cons qr n2 a2 k2 r)) G)+cB args:=rfl;refine⟨⟨⟨⟨U.head.okt.ok,U.head.okt.at_,?_⟩,?_,?_,?_⟩,U.ne,U.args⟩,?_⟩
  . simp only at z ⊢;rw[mH];cases hd:ds n with
    | nil=>rw[hd]at z;exact z.elim
    | cons d1 dl =>
     cases dl with
     | nil=>rw[hd]at z;exact z.2.2.2.2.elim
     | cons d2 dl =>
      rw[hd]at z;obtain⟨w1,w2,w3,w4,w5,w6,w7,w8,w9⟩:=z;exact⟨w1,w2,w3,w4,w5,s.okt.ok,s.okt.at_,s.okt.wf,w9⟩
  . show bL (n,a,gB (.cons pr n1 a1 k1 (.cons qr n2 a2 k2 r)) G)<=4096;omega
  . have hl:=(nO U.head.low).2;simp only at hl ⊢;rw[mH];unfold nI;rw[show decide (n.op=1)=false from XQ aA,Bool.false_and,ZP];rw[eK,eK,ZG,ZG]at hl ⊢;refine⟨hl.1,?_,hl.2.2⟩;have hz:aR n.op n.b ((0+1:Nat):Int)=0:=eQ (.inr (.inr F));rw[hz,YQ];exact s.low
  . intro m D;have o:=U.head.nod;rw[mH]at D;simp only[aW,row,YV,YW]at D o;rcases D with D|D|D|D|D|D|D|D|D|D|D
    . exact o m (.inl D)
    . exact o m (.inr (.inl D))
    . exact o m (.inr (.inr (.inl D)))
    . exact o m (.inr (.inr (.inr (.inl D))))
    . exact o m (.inr (.inr (.inr (.inr (.inl D)))))
    . exact o m (.inr (.inr (.inr (.inr (.inr (.inl D))))))
    . exact o m (.inr (.inr (.inr (.inr (.inr (.inr (.inl D)))))))
    . exact s.nod m (by simp[aW,D])
    . exact s.nod m (by simp[aW,D])
    . exact s.nod m (by simp[aW,D])
    exact o m (by simp[D])
  . rw[a4,a0];omega
end Go.Proofs.YtjoddliplahgkaaGreat
