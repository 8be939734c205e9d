/- Merged: RvO, RvU, WhQ. -/
import Derived.Test.YtjoddliplahgkaaGreatPHighest
namespace Go.Proofs.YtjoddliplahgkaaGreat
set_option linter.unusedVariables false
set_option linter.unusedSimpArgs false
open Go.RowKit
open Go.Value renaming int → O, slice → Z
open Go.IntKind renaming i64 → Y
open Option renaming none → I, some → J
open Go.Obj renaming cells → M
section
open Go.Lib renaming hid->aB
theorem NA {w:World} {R:Nat->Prop} {tx tu:iE} {x u:TT} (hR:∀b,R b->b<w.heap.size) (htx:dX R w tx x) (htu:dX R w tu u) (hx:oH x) (hu:oH u) (sx:bI x<=4096) (su:bI u<=4096) :
 Calls Tryz.prog 124 #[.agg (bH tx x.1),.agg (bH tu u.1),O Y 0,O Y 0] w (OH R w (AK (sA u) 0 x)):=by
 have fz:∀y:TT,bI y<=4096->aX y.2.2<=4096:=fun y hy=>by
  obtain⟨n,a,k⟩:=y;have h2:=eT k;have h4:=dL n a k;simp only;omega
 have h1:=fz x sx;have h2:=fz u su;refine (G6 ⟨u.1,u.2.1,u.2.2⟩ hu.ok hu.all (by simp only;omega) (aX x.2.2+1) w R _ _ x.1 x.2.1 x.2.2 0 0 hR htx htu hx.ok hx.all (Int.le_refl 0) (Int.le_refl 0) aA aA (Nat.lt_succ_self _)).mono ?_;intro e w' hp;rw[<-Q9 hx hu];exact eZ.tt (x:=(_,_,_)) hp
def SM (R:Nat->Prop) (w:World) (q:TT×Int) (e:Ending) (w':World):Prop:=Below w.heap.size w w'/\∃t:iE,e=.returned (.tuple #[.agg (bH t q.1.1),O Y q.2])/\dX (bB R w w') w' t q.1
theorem nP {R:Nat->Prop} {w V W:World} {g:Nat} {t:iE} {y:TT} {z:Int} (hR:∀b,R b->b<w.heap.size) (hg0:w.heap.size<=g) (hg1:g<V.heap.size) (hb:Below w.heap.size w W) (ht:dX (bB R V W) W t y) :
 SM R w (y,z) (.returned (.tuple #[.agg (bH t y.1),O Y z])) ((((((W.setCell ⟨g,0,I⟩ (O Y y.1.op)).setCell ⟨g,1,I⟩ (O Y y.1.a)).setCell ⟨g,2,I⟩ (O Y y.1.b)).setCell ⟨g,3,I⟩ (Z t.Ak t.nk t.ck)).setCell ⟨g,4,I⟩ (Z t.Aa t.na t.ca)).setCell ⟨g,5,I⟩ (Z t.Af t.nf t.cf)):=by
 obtain⟨h1,ys,h2,h3⟩:=qG hR hg0 hg1 hb ht;injection h2 with h2;injection h2 with h2;refine⟨h1,t,rfl,?_⟩;have:ys=[O Y y.1.op,O Y y.1.a,O Y y.1.b,Z t.Ak t.nk t.ck,Z t.Aa t.na t.ca,Z t.Af t.nf t.cf]:=by
  have:=congrArg Array.toList h2;simpa using this.symm
 rw[this] at h3;exact h3
theorem iN {w:World} {g:Nat} {c0 c1 c2 c3 c4 c5:Value} {tmps:Array Value} (h:aS w g 85 #[c0,c1,c2,c3,c4,c5]) (ht:tmps.getD 4 undef=.pointer (J ⟨g,0,I⟩)) :
 (results Tryz.f80 tmps).run Tryz.prog w=.ok (.tuple #[.agg #[c0,c1,c2,c3,c4,c5],tmps.getD 5 undef]) w:=by
 have hc:=h.cell;have a0:tmps[4]?.getD undef=.pointer (J ⟨g,0,I⟩):=by rw[<-ht];simp
 simp[results,Tryz.results80,go_sem,a0,hc]
set_option maxRecDepth 100000 in
set_option maxHeartbeats 8000000 in
theorem oW {b:Bk} {free:Int} {w:World} {R:Nat->Prop} {tx tu:iE} {x u:TT} (hR:∀b,R b->b<w.heap.size) (htx:dX R w tx x) (htu:dX R w tu u) (hx:bR b (free+1) x) (hu:bR b free u) (h0:0<=free) (h1:free<=1000000) :
 Calls Tryz.prog 80 #[.agg (bH tx x.1),.agg (bH tu u.1)] w (SM R w (cH x u)):=by
 have fz:∀y:TT,bI y<=4096->aX y.2.2<=4096/\1<=bI y:=fun y hy=>by
  obtain⟨n,a,k⟩:=y;have h2:=eT k;have h4:=dL n a k;simp only;omega
 obtain⟨fx,px⟩:=fz x hx.few;obtain⟨fu,pu⟩:=fz u hu.few;have sx4:=hx.few;have su4:=hu.few;obtain⟨t1,t2,t3,t4⟩:=IB hx.okt.ok 0 x.2.2 hx.okt.all;have c0:=NX hx.okt;obtain⟨N,D,c7⟩ : ∃N D,gV x.1 x.2.2 0=(N,D):=⟨_,_,rfl⟩;rw[c7] at t1 t2 t3 t4 c0;simp only at t1 t2 t3 t4 c0;have a1:Hid (cH x u=if 4096<(bI x:Int)+N*((bI u:Int)-1) then (x,9) else (AK (sA u) 0 x,0)):=aB (by unfold cH;rw[<-c0]);have e1:=tO hu (up:=D) aA;have d5:=aB (fun (W:World) (h:Below w.heap.size w W)=>mM (R:=R) (up:=D) (u:=0) (fun b hb=>Nat.lt_of_lt_of_le (hR b hb) h.size) (htu.below hR h) hu.okt.ok hu.okt.all t3 aA (Int.le_refl 0) aA);have d2:=aB (fun (W:World) (h:Below w.heap.size w W)=>KM (R:=R) (u:=0) (fun b hb=>Nat.lt_of_lt_of_le (hR b hb) h.size) (htx.below hR h) hx.okt.ok hx.okt.all (Int.le_refl 0) aA);rw[c7] at d2;have c1:=aB (fun (W:World) (h:Below w.heap.size w W)=>nU (R:=R) (fun b hb=>Nat.lt_of_lt_of_le (hR b hb) h.size) (htx.below hR h) aA);have c2:=aB (fun (W:World) (h:Below w.heap.size w W)=>nU (R:=R) (fun b hb=>Nat.lt_of_lt_of_le (hR b hb) h.size) (htu.below hR h) aA);have d4:=aB (fun (W:World) (h:Below w.heap.size w W)=>NA (R:=R) (fun b hb=>Nat.lt_of_lt_of_le (hR b hb) h.size) (htx.below hR h) (htu.below hR h) hx.okt hu.okt sx4 su4);have d1:=aB (fun (W:World) (h:Below w.heap.size w W)=>htx.below hR h);have HR:=aB hR;obtain⟨H,hH⟩ : ∃H,H=oT D u.1 u.2.2 0:=⟨_,rfl⟩;rw[<-hH] at e1 d5;obtain⟨X,hX⟩ : ∃X,X=bI x:=⟨_,rfl⟩;obtain⟨U,hU⟩ : ∃U,U=bI u:=⟨_,rfl⟩;rw[<-hX] at c1 a1 px sx4;rw[<-hU] at c2 a1 pu su4;have dH:decide (H>1048576)=false:=decide_eq_false aA;have e5:N<=4097:=aA;have e4:N*((U:Int)-1)<=4097*4095:=Int.mul_le_mul e5 aA aA aA;have c6:0<=N*((U:Int)-1):=Int.mul_nonneg t1 aA;have e6:IntKind.i64.wrap ((U:Int)-1)=(U:Int)-1:=by rw[IntKind.wrap_i64];omega
 have e0:IntKind.i64.wrap (N*((U:Int)-1))=N*((U:Int)-1):=by rw[IntKind.wrap_i64];omega
 have d9:IntKind.i64.wrap ((X:Int)+N*((U:Int)-1))=(X:Int)+N*((U:Int)-1):=by rw[IntKind.wrap_i64];omega
 obtain⟨⟨xo,xa,xb⟩,xat,xk⟩:=x;obtain⟨⟨uo,ua,ub⟩,uat,uk⟩:=u;obtain⟨Ak,nk,ck,Aa,na,ca,Af,nf,cf⟩:=tx;obtain⟨Bk,mk,dk,Ba,ma,da,Bf,mf,df⟩:=tu;simp only at d5 d2 c1 c2 d4 d1 a1 ⊢;clear c7 c0 e1 fz htx htu hx hu fx fu px pu hX hU hH e4 c6 t2 t3 t4 hR;have d8:=aB (a7 w (M #[O Y xo,O Y xa,O Y xb,Z Ak nk ck,Z Aa na ca,Z Af nf cf] 85) (M #[O Y uo,O Y ua,O Y ub,Z Bk mk dk,Z Ba ma da,Z Bf mf df] 85));have d7:=aB (d8.o.alloc d8.o.size (M #[O Y 0,O Y 0,O Y 0,Z I 0 0,Z I 0 0,Z I 0 0] 85));have c9:Hid (aS (((w.alloc (M #[O Y xo,O Y xa,O Y xb,Z Ak nk ck,Z Aa na ca,Z Af nf cf] 85)).alloc (M #[O Y uo,O Y ua,O Y ub,Z Bk mk dk,Z Ba ma da,Z Bf mf df] 85)).alloc (M #[O Y 0,O Y 0,O Y 0,Z I 0 0,Z I 0 0,Z I 0 0] 85)) w.heap.size 85 #[O Y xo,O Y xa,O Y xb,Z Ak nk ck,Z Aa na ca,Z Af nf cf]):=aB (((aS.new _ _ _).alloc _).alloc _);have d0:Hid (aS (((w.alloc (M #[O Y xo,O Y xa,O Y xb,Z Ak nk ck,Z Aa na ca,Z Af nf cf] 85)).alloc (M #[O Y uo,O Y ua,O Y ub,Z Bk mk dk,Z Ba ma da,Z Bf mf df] 85)).alloc (M #[O Y 0,O Y 0,O Y 0,Z I 0 0,Z I 0 0,Z I 0 0] 85)) (w.heap.size+1) 85 #[O Y uo,O Y ua,O Y ub,Z Bk mk dk,Z Ba ma da,Z Bf mf df]):=aB ((aS.new' aD).alloc _);have c8:Hid (aS (((w.alloc (M #[O Y xo,O Y xa,O Y xb,Z Ak nk ck,Z Aa na ca,Z Af nf cf] 85)).alloc (M #[O Y uo,O Y ua,O Y ub,Z Bk mk dk,Z Ba ma da,Z Bf mf df] 85)).alloc (M #[O Y 0,O Y 0,O Y 0,Z I 0 0,Z I 0 0,Z I 0 0] 85)) (w.heap.size+1+1) 85 #[O Y 0,O Y 0,O Y 0,Z I 0 0,Z I 0 0,Z I 0 0]):=aB (aS.new' aD);go_in;go_wp2_with fail;refine (d2.o _ d7.o).mono ?_;rintro e w3 ⟨rfl,b7⟩;have a2:=bZ d7 b7;have b0:=aB (c9.o.below b7 c9.o.lt);have a5:=aB (d0.o.below b7 d0.o.lt);have a9:=aB (c8.o.below b7 c8.o.lt);clear b7 d8 d7 c9 d0 c8;have c4:=aS.cell a5.o;have hcut:N>0\/¬ N>0:=Decidable.em _;rcases hcut with hn | hn;rotate_left
 · have dN:decide (N>0)=false:=decide_eq_false hn;clear hn;go_wp2_with fail;have a3:=aB (fun (W:World) (h:Below w3.heap.size w3 W)=>(by
    have a:=(b0.o.below h b0.o.lt).cell;have c:=(a5.o.below h a5.o.lt).cell;exact⟨a 0,a 1,a 2,a 3,a 4,a 5,c 0,c 1,c 2,c 3,c 4,c 5⟩:W.cell? ⟨w.heap.size,0,I⟩=J (O Y xo)/\W.cell? ⟨w.heap.size,1,I⟩=J (O Y xa)/\W.cell? ⟨w.heap.size,2,I⟩=J (O Y xb)/\W.cell? ⟨w.heap.size,3,I⟩=J (Z Ak nk ck)/\W.cell? ⟨w.heap.size,4,I⟩=J (Z Aa na ca)/\W.cell? ⟨w.heap.size,5,I⟩=J (Z Af nf cf)/\W.cell? ⟨w.heap.size+1,0,I⟩=J (O Y uo)/\W.cell? ⟨w.heap.size+1,1,I⟩=J (O Y ua)/\W.cell? ⟨w.heap.size+1,2,I⟩=J (O Y ub)/\W.cell? ⟨w.heap.size+1,3,I⟩=J (Z Bk mk dk)/\W.cell? ⟨w.heap.size+1,4,I⟩=J (Z Ba ma da)/\W.cell? ⟨w.heap.size+1,5,I⟩=J (Z Bf mf df)))
   try clear c4
   refine wp_region_held_drew (S:=(fun w'=>w'.cell? ⟨w.heap.size,0,I⟩=J (O Y xo)/\w'.cell? ⟨w.heap.size,1,I⟩=J (O Y xa)/\w'.cell? ⟨w.heap.size,2,I⟩=J (O Y xb)/\w'.cell? ⟨w.heap.size,3,I⟩=J (Z Ak nk ck)/\w'.cell? ⟨w.heap.size,4,I⟩=J (Z Aa na ca)/\w'.cell? ⟨w.heap.size,5,I⟩=J (Z Af nf cf)/\w'.cell? ⟨w.heap.size+1,0,I⟩=J (O Y uo)/\w'.cell? ⟨w.heap.size+1,1,I⟩=J (O Y ua)/\w'.cell? ⟨w.heap.size+1,2,I⟩=J (O Y ub)/\w'.cell? ⟨w.heap.size+1,3,I⟩=J (Z Bk mk dk)/\w'.cell? ⟨w.heap.size+1,4,I⟩=J (Z Ba ma da)/\w'.cell? ⟨w.heap.size+1,5,I⟩=J (Z Bf mf df))) aC ?_ (fun hZ => ?_)
   · (try dsimp only);exact a3.o _ (aT (Below.refl w3.heap.size w3) 1)
   refine aL 0 hZ ?_;refine aL 2 hZ ?_;refine aL 3 hZ ?_;refine r1 1 fun K hK => ?_;go_simp;go_at_call 46
   refine (c1.o _ (a2.o.trans ((aT (Below.refl w3.heap.size w3) 1).mono a2.o.size))).mono ?_;rintro e w5 ⟨rfl,b5⟩;have b2:=aB ((aT (Below.refl w3.heap.size w3) 1).trans (b5.mono (aT (Below.refl w3.heap.size w3) 1).size));clear b5;go_wp2_with fail;refine hK.o _ _ (by exact a3.o _ b2.o) fun hZ => ?_;clear hK K;try simp only[p7]
   refine r1 4 fun K hK => ?_;go_simp;go_at_call 46
   refine (c2.o _ (a2.o.trans (b2.o.mono a2.o.size))).mono ?_;rintro e w6 ⟨rfl,b4⟩;have b9:=bZ b2 b4;clear b4;go_wp2_with fail;refine hK.o _ _ (by exact a3.o _ b9.o) fun hZ => ?_;clear hK K;try simp only[p7]
   refine aL 5 hZ ?_;refine aL 6 hZ ?_;refine aL 7 hZ ?_;refine aL 8 hZ ?_;refine wpAnyH_done aC ?_ _;have b8:=b9;clear a3;have a4:=aB (a2.o.trans (b8.o.mono a2.o.size));have a0:=aB (a9.o.below b8.o a9.o.lt);have c3:=aS.cell a0.o;have c5:=aS.frozen a0.o;clear e0 d9;generalize (X:Int)+N*((U:Int)-1)=Q at *;by_cases hbig:4096<Q
   · have dB:decide (Q>4096)=true:=decide_eq_true hbig;have b1:=aB (a1.o.trans (if_pos hbig));go_wp2_with fail;refine bodyPost_ret (v:=.tuple #[.agg #[O Y xo,O Y xa,O Y xb,Z Ak nk ck,Z Aa na ca,Z Af nf cf],O Y 9]) ?_ rfl ?_
     · exact iN (g:=w.heap.size+1+1) (cJ a0.o _ _ _ _ _ _) aD
     rw[b1.o];exact nP (V:=w6) (t:=⟨Ak,nk,ck,Aa,na,ca,Af,nf,cf⟩) HR.o aA a0.o.lt a4.o ((d1.o _ a4.o).keep fun b hb=>⟨Or.inl hb,fun o=>rfl⟩)
   have dB:decide (Q>4096)=false:=decide_eq_false hbig;have b1:=aB (a1.o.trans (if_neg hbig));go_wp2_with fail;refine (d4.o _ a4.o).mono ?_;rintro e w8 ⟨a6,⟨Ck,pk,ek,Ca,pa,ea,Cf,pf,ef⟩,rfl,b3⟩;generalize AK (sA ((⟨uo,ua,ub⟩:Nd),uat,uk)) 0 ((⟨xo,xa,xb⟩:Nd),xat,xk)=y at *;obtain⟨⟨yo,ya,yb⟩,yat,yk⟩:=y;have d6:=bZ a4 a6;have a8:=aB (a0.o.below a6 a0.o.lt);have e2:=aS.cell a8.o;have e3:=aS.frozen a8.o;have d3:=aB b3;clear a6 b3 c3 c5;go_wp2_with fail;refine bodyPost_ret (v:=.tuple #[.agg #[O Y yo,O Y ya,O Y yb,Z Ck pk ek,Z Ca pa ea,Z Cf pf ef],O Y 0]) ?_ rfl ?_
   · exact iN (g:=w.heap.size+1+1) (cJ a8.o _ _ _ _ _ _) aD
   rw[b1.o];exact nP (V:=w6) (t:=⟨Ck,pk,ek,Ca,pa,ea,Cf,pf,ef⟩) HR.o aA a0.o.lt d6.o d3.o
 have dN:decide (N>0)=true:=decide_eq_true hn;clear hn;go_wp2_with fail;refine (d5.o _ a2.o).mono ?_;rintro e w4 ⟨rfl,b6⟩
 replace b0:=aB (b0.o.below b6 b0.o.lt)
 replace a5:=aB (a5.o.below b6 a5.o.lt)
 replace a9:=aB (a9.o.below b6 a9.o.lt)
 replace a2:=bZ a2 b6
 clear b6 c4;clear w3;have⟨w3,hw34⟩ : ∃v,v=w4:=⟨_,rfl⟩;subst hw34;go_wp2_with fail;have a3:=aB (fun (W:World) (h:Below w3.heap.size w3 W)=>(by
  have a:=(b0.o.below h b0.o.lt).cell;have c:=(a5.o.below h a5.o.lt).cell;exact⟨a 0,a 1,a 2,a 3,a 4,a 5,c 0,c 1,c 2,c 3,c 4,c 5⟩:W.cell? ⟨w.heap.size,0,I⟩=J (O Y xo)/\W.cell? ⟨w.heap.size,1,I⟩=J (O Y xa)/\W.cell? ⟨w.heap.size,2,I⟩=J (O Y xb)/\W.cell? ⟨w.heap.size,3,I⟩=J (Z Ak nk ck)/\W.cell? ⟨w.heap.size,4,I⟩=J (Z Aa na ca)/\W.cell? ⟨w.heap.size,5,I⟩=J (Z Af nf cf)/\W.cell? ⟨w.heap.size+1,0,I⟩=J (O Y uo)/\W.cell? ⟨w.heap.size+1,1,I⟩=J (O Y ua)/\W.cell? ⟨w.heap.size+1,2,I⟩=J (O Y ub)/\W.cell? ⟨w.heap.size+1,3,I⟩=J (Z Bk mk dk)/\W.cell? ⟨w.heap.size+1,4,I⟩=J (Z Ba ma da)/\W.cell? ⟨w.heap.size+1,5,I⟩=J (Z Bf mf df)))
 try clear c4
 refine wp_region_held_drew (S:=(fun w'=>w'.cell? ⟨w.heap.size,0,I⟩=J (O Y xo)/\w'.cell? ⟨w.heap.size,1,I⟩=J (O Y xa)/\w'.cell? ⟨w.heap.size,2,I⟩=J (O Y xb)/\w'.cell? ⟨w.heap.size,3,I⟩=J (Z Ak nk ck)/\w'.cell? ⟨w.heap.size,4,I⟩=J (Z Aa na ca)/\w'.cell? ⟨w.heap.size,5,I⟩=J (Z Af nf cf)/\w'.cell? ⟨w.heap.size+1,0,I⟩=J (O Y uo)/\w'.cell? ⟨w.heap.size+1,1,I⟩=J (O Y ua)/\w'.cell? ⟨w.heap.size+1,2,I⟩=J (O Y ub)/\w'.cell? ⟨w.heap.size+1,3,I⟩=J (Z Bk mk dk)/\w'.cell? ⟨w.heap.size+1,4,I⟩=J (Z Ba ma da)/\w'.cell? ⟨w.heap.size+1,5,I⟩=J (Z Bf mf df))) aC ?_ (fun hZ => ?_)
 · (try dsimp only);exact a3.o _ (aT (Below.refl w3.heap.size w3) 1)
 refine aL 0 hZ ?_;refine aL 2 hZ ?_;refine aL 3 hZ ?_;refine r1 1 fun K hK => ?_;go_simp;go_at_call 46
 refine (c1.o _ (a2.o.trans ((aT (Below.refl w3.heap.size w3) 1).mono a2.o.size))).mono ?_;rintro e w5 ⟨rfl,b5⟩;have b2:=aB ((aT (Below.refl w3.heap.size w3) 1).trans (b5.mono (aT (Below.refl w3.heap.size w3) 1).size));clear b5;go_wp2_with fail;refine hK.o _ _ (by exact a3.o _ b2.o) fun hZ => ?_;clear hK K;try simp only[p7]
 refine r1 4 fun K hK => ?_;go_simp;go_at_call 46
 refine (c2.o _ (a2.o.trans (b2.o.mono a2.o.size))).mono ?_;rintro e w6 ⟨rfl,b4⟩;have b9:=bZ b2 b4;clear b4;go_wp2_with fail;refine hK.o _ _ (by exact a3.o _ b9.o) fun hZ => ?_;clear hK K;try simp only[p7]
 refine aL 5 hZ ?_;refine aL 6 hZ ?_;refine aL 7 hZ ?_;refine aL 8 hZ ?_;refine wpAnyH_done aC ?_ _;have b8:=b9;clear a3;have a4:=aB (a2.o.trans (b8.o.mono a2.o.size));have a0:=aB (a9.o.below b8.o a9.o.lt);have c3:=aS.cell a0.o;have c5:=aS.frozen a0.o;clear e0 d9;generalize (X:Int)+N*((U:Int)-1)=Q at *;by_cases hbig:4096<Q
 · have dB:decide (Q>4096)=true:=decide_eq_true hbig;have b1:=aB (a1.o.trans (if_pos hbig));go_wp2_with fail;refine bodyPost_ret (v:=.tuple #[.agg #[O Y xo,O Y xa,O Y xb,Z Ak nk ck,Z Aa na ca,Z Af nf cf],O Y 9]) ?_ rfl ?_
   · exact iN (g:=w.heap.size+1+1) (cJ a0.o _ _ _ _ _ _) aD
   rw[b1.o];exact nP (V:=w6) (t:=⟨Ak,nk,ck,Aa,na,ca,Af,nf,cf⟩) HR.o aA a0.o.lt a4.o ((d1.o _ a4.o).keep fun b hb=>⟨Or.inl hb,fun o=>rfl⟩)
 have dB:decide (Q>4096)=false:=decide_eq_false hbig;have b1:=aB (a1.o.trans (if_neg hbig));go_wp2_with fail;refine (d4.o _ a4.o).mono ?_;rintro e w8 ⟨a6,⟨Ck,pk,ek,Ca,pa,ea,Cf,pf,ef⟩,rfl,b3⟩;generalize AK (sA ((⟨uo,ua,ub⟩:Nd),uat,uk)) 0 ((⟨xo,xa,xb⟩:Nd),xat,xk)=y at *;obtain⟨⟨yo,ya,yb⟩,yat,yk⟩:=y;have d6:=bZ a4 a6;have a8:=aB (a0.o.below a6 a0.o.lt);have e2:=aS.cell a8.o;have e3:=aS.frozen a8.o;have d3:=aB b3;clear a6 b3 c3 c5;go_wp2_with fail;refine bodyPost_ret (v:=.tuple #[.agg #[O Y yo,O Y ya,O Y yb,Z Ck pk ek,Z Ca pa ea,Z Cf pf ef],O Y 0]) ?_ rfl ?_
 · exact iN (g:=w.heap.size+1+1) (cJ a8.o _ _ _ _ _ _) aD
 rw[b1.o];exact nP (V:=w6) (t:=⟨Ck,pk,ek,Ca,pa,ea,Cf,pf,ef⟩) HR.o aA a0.o.lt d6.o d3.o
end
theorem MQ {R:Nat->Prop} {w:World} {t:iE} {h:TT} (ht:dX R w t h) (h12:h.1.op=12) (hok:oH h) (i:Nat):dX R w ⟨t.Ak,t.nk,t.ck,I,0,0,t.Af,t.nf,t.cf⟩ (eD h i):=by
 have ha:h.2.1=[]:=by
  have:=hok.at_;unfold iR at this;rw[if_neg aA] at this;exact this
 have e:(eD h i).2.1=[]:=ha;unfold dX;rw[e];exact⟨_,_,_,rfl,⟨_,_,_,rfl,ht.kids⟩,gE.nil R w,⟨_,_,_,rfl,ht.funs⟩⟩
theorem PW {x u:TT} (h:(cH x u).2 ≠ 0):(cH x u).1=x:=by
 unfold cH at h ⊢;split
 · rfl
 rename_i h2
 rw[if_neg h2] at h;exact absurd rfl h
theorem mT {w:World} {g:Nat} {c0 c1 c2 c3 c4 c5:Value} {tmps:Array Value} (h:aS w g 85 #[c0,c1,c2,c3,c4,c5]) (ht:tmps.getD 2 undef=.pointer (J ⟨g,0,I⟩)) :
 (results Tryz.f85 tmps).run Tryz.prog w=.ok (.tuple #[.agg #[c0,c1,c2,c3,c4,c5],tmps.getD 3 undef]) w:=by
 have hc:=h.cell;have a0:tmps[2]?.getD undef=.pointer (J ⟨g,0,I⟩):=by rw[<-ht];simp
 simp[results,Tryz.results85,go_sem,a0,hc]
theorem kF {b:Bk} {free:Int} {x u:TT} (h0:0<=free) (h1:free<=1000000) (hx:bR b (free+1) x) (hu:bR b free u) :
 uX (aW x) (aW u) (min 0 1048577)/\iZ (aW x) (aW u) 0=(if (cH x u).2=0 then aW (cH x u).1 else [],(cH x u).2)/\((cH x u).2=0->bR b free (cH x u).1):=by
 have hT:=hx.rt;have hU:=hu.rt;have b5:=hu.okt;have hw:=hx.okt.one;have b4:=hx.low;have a0:=hu.low;have a8:=hu.nod;have b8:=hx.nod;have b9:=hT.few;have b1:=hU.few;obtain⟨n,a,k⟩:=x;obtain⟨un,ua,uk⟩:=u;simp only at b4 a0 hw;have a1:aW (n,a,k)=row (.cons [] n a k .nil):=by simp[row,aW]
 have hm:min (0:Int) 1048577=0:=by decide
 have hz:aR 0 0 ((0:Nat):Int)=0:=by decide
 have a6:∀j:Int,0<=aR 0 0 j/\aR 0 0 j<=4:=fun j=>by
  rw[lM aE aE aE aE];omega
 have b0:QP (un,ua,uk) 17000:=fun c hc0 hc1=>by
  have hW:=b5.one;have hl:((row (.cons [] un ua uk .nil)).length:Int)<=4096:=by
   have:row (.cons [] un ua uk .nil)=aW (un,ua,uk):=by simp[row,aW]
   rw[this];omega
  have h2:=sQ (B:=free) (up:=c) hc0 0 0 a6 0 0 _ _ hW (by
   rw[eJ,hz,Int.add_zero];simp only;rw[a0];rfl) (by simp only;omega)
  rw[cW.G_cons,hz,Int.add_zero,Bool.and_eq_true] at h2;exact h2.1
 have b2:4*((row (.cons [] n a k .nil)).length:Int)<=17000:=by rw[<-a1];omega
 have hD:(oL ⟨un,ua,uk⟩ 0).D 0 0 0 0 () (.cons [] n a k .nil):=MZ b0 0 0 a6 0 0 _ _ hw aA aA;have hE:=zN (un,ua,uk) 0 0 0 0 _ (rP _ _ hw);have a9:dC k:=by
  have:=pZ hT.pp;exact this.2.1
 have c0:=LO (x:=0) hx.okt.ok a9;have c2:=eT k;have b3:1+a.length+(row k).length<=4096:=by have:=hx.few;rwa [dL] at this
 have a7:¬ (0<pJ 0 n k/\oI (fun v b=>decide (b<=v)&&decide (1048576<v-b+0+I6 0 n k)) 0 un uk=true):=fun hh=>by
  have h2:=qS (p:=fun v z=>decide (free<=v-z)) (q:=fun v b=>decide (b<=v)&&decide (1048576<v-b+0+I6 0 n k)) (c:=0) (fun v z hh=>by
   simp only[Bool.and_eq_true,decide_eq_true_eq] at hh ⊢;simp only at c0;omega) (a:=0) a0
  rw[hh.2] at h2;cases h2
 refine⟨?_,?_⟩
 · rw[hm];unfold uX;rw[hT.pp,hU.pp];simp only;rw[cW.D_cons,hz,Int.add_zero] at hD;exact hD.1
 have hF:(oL ⟨un,ua,uk⟩ 0).E1 0 () n a k=row (vY (sA (un,ua,uk)) 0 0 0 0 (.cons [] n a k .nil)):=by
  rw[<-hE,cW.E_cons,hz,Int.add_zero];simp[cW.E]
 have a5:=NR b5 b0 0 0 a6 0 0 _ _ hw aA aA;have a3:=FU (un,ua,uk) 0 0 0 0 _ (rP _ _ hw);have c1:yR 0 0 0 0 0 (.cons [] n a k .nil)=pJ 0 n k:=by
  simp only[yR,pJ,hz,Int.add_zero,Int.sub_zero]
 rw[c1,<-a1] at a3;have b6:iZ (aW (n,a,k)) (aW (un,ua,uk)) 0=if 4096<(bI (n,a,k):Int)+pJ 0 n k*((bI (un,ua,uk):Int)-1) then ([],9) else ((oL ⟨un,ua,uk⟩ 0).E1 0 () n a k,0):=by
  unfold iZ;rw[if_pos hT.shape,if_pos hU.shape,if_neg aA,hm];unfold rM;rw[hT.pp,hU.pp];simp only;rw[if_neg a7]
 rw[b6];unfold cH;simp only;by_cases hbig:4096<(bI (n,a,k):Int)+pJ 0 n k*((bI (un,ua,uk):Int)-1)
 · rw[if_pos hbig,if_pos hbig];exact⟨rfl,fun h=>by cases h⟩
 rw[if_neg hbig,if_neg hbig];have a4:=NQ (u:=(un,ua,uk)) h0 a0 0 0 (fun j=>(a6 j).1) 0 0 _ (rP _ _ hw) (D3 _ _ hw) aA (by
  rw[eJ,hz,Int.add_zero,b4];rfl)
 have a2:=uV (u:=(un,ua,uk)) (fun m=>cN b b.entries.length (-1) m=true) (fun m h=>wV h) (fun m hm=>a8 m hm) 0 0 0 0 (.cons [] n a k .nil) (fun m hm=>b8 m (by rw[a1];exact hm));rw[hF];rw[kG] at a5 a4 a2 a3 ⊢;rw[hz,Int.add_zero] at a5 a4 a2 a3 ⊢;generalize AK (sA (un,ua,uk)) 0 (n,a,k)=y at *;have e0:vY (sA (un,ua,uk)) 0 0 (0+1) 0 .nil=.nil:=rfl;rw[e0] at a5 a4 a2 a3 ⊢;have b7:row (.cons [] y.1 y.2.1 y.2.2 .nil)=aW y:=by simp[row,aW]
 rw[b7] at a2 a3 ⊢;refine⟨by simp,fun _=>⟨EX a5 (by simp[cI]),?_,?_,a2⟩⟩
 · show (aW y).length<=4096;have e1:bI (n,a,k)=(aW (n,a,k)).length:=rfl;rw[e1] at hbig;omega
 rw[eJ,hz,Int.add_zero,Bool.or_eq_false_iff] at a4;exact a4.1
theorem AE {b:Bk} {free up:Int} {u:TT} (h:bR b free u) (h0:0<=up) (h1:free+up<=1000000):bR b (free+up) (i5 u up)/\l8 (aW u) up 0=(aW (i5 u up),0):=by
 have a1:=h.rt;have hm:min (0:Int) 1048577=0:=by decide
 have hz:aR 0 0 ((0:Nat):Int)=0:=by decide
 have hg:(jO up 0).G1 0 () u.1 u.2.2=true:=by
  have hl:((row (.cons [] u.1 u.2.1 u.2.2 .nil)).length:Int)<=4096:=by
   have h2:=h.few;have h3:row (.cons [] u.1 u.2.1 u.2.2 .nil)=aW u:=by simp[row,aW]
   rw[h3];have h4:(aW u).length<=4096:=h2;omega
  have h2:=sQ (B:=free) (up:=up) h0 0 0 (fun j=>by rw[lM aE aE aE aE];omega) 0 0 _ _ h.okt.one (by
   rw[eJ,hz,Int.add_zero,h.low];rfl) aA
  rw[cW.G_cons,hz,Int.add_zero,Bool.and_eq_true] at h2;exact h2.1
 have a0:row (sJ up 0 0 0 0 0 (.cons [] u.1 u.2.1 u.2.2 .nil))=aW (i5 u up):=by
  rw[sP];simp[row,aW,i5]
 refine⟨⟨N1 h.okt h0 hg,by rw[N0];exact h.few,?_,fun m hm => ?_⟩,?_⟩
 · cases he:oI (fun x z=>decide (free+up<=x-z)) 0 (i5 u up).1 (i5 u up).2.2 with
   | false=>rfl
   | true =>
    have e1:oD (fun x z=>decide (free+up<=x-z)) 0 0 0 0 (sJ up 0 0 0 0 0 (.cons [] u.1 u.2.1 u.2.2 .nil))=true:=by
     rw[sP,eJ,hz,Int.add_zero];unfold i5 at he;rw[he];rfl
    have e2:=EN 0 0 0 0 _ e1 h0;rw[eJ,hz,Int.add_zero,h.low] at e2;cases e2
 · rw[<-a0] at hm;rcases z9 0 0 0 0 _ m hm with h9 | h9
   · exact h.nod m (by simpa[row,aW] using h9)
   exact wV h9
 unfold l8;rw[if_pos a1.shape,if_neg aA];unfold CD;rw[a1.pp,hm];simp only;rw[if_pos hg,CT];rfl
structure fR (b:Bk) (cv:List (List Nd)):Prop where
 few:cv.length<=990000
 vals:∀k,k<cv.length->cv.getD k []=[]\/∃x,cv.getD k []=aW x/\bR b (k:Int) x
theorem uZ {b:Bk} {free:Int} {x:TT} (h:bR b free x):cP (aW x)=x:=yD h.rt
theorem lG (x:TT):0<(aW x).length:=by simp[aW]
theorem dI {x:TT} {i:Nat} {y:TT} (h:(cI x.2.2)[i]? = J y):eQ x i=y:=by
 unfold eQ;rw[List.getD_eq_getElem?_getD,h];rfl
theorem kY {x:TT} {i:Nat} (h:i<(cI x.2.2).length):(cI x.2.2)[i]? = J (eQ x i):=by
 rw[List.getElem?_eq_getElem h,dI (List.getElem?_eq_getElem h)]
theorem gS {α:Type} {L:List α} {i:Nat} (h:i<L.length) (d:α):L.getD i d ∈ L:=by
 rw[List.getD_eq_getElem?_getD,List.getElem?_eq_getElem h];exact List.getElem_mem h
theorem nG:∀{L:List TT} {a:TT},a ∈ L->bI a<bT L
 | x::r,a,h=>by
  simp only[bT];rcases List.mem_cons.1 h with rfl | h
  · omega
  · have:=nG h;omega
theorem qL:∀(L:List TT) (i:Nat) (p d:TT),i<L.length->bT (L.set i p)+bI (L.getD i d)=bT L+bI p
 | [],i,p,d,h=>absurd h aD
 | x::r,0,p,d,_=>by simp only[List.set_cons_zero,bT,List.getD_cons_zero];omega
 | x::r,i+1,p,d,h=>by
  simp only[List.set_cons_succ,bT,List.getD_cons_succ];have:=qL r i p d (by simpa using h);omega
theorem oQ:∀(L:List TT) (i:Nat),bT (L.drop i)<=bT L
 | [],i=>by simp[bT]
 | x::r,0=>by simp
 | x::r,i+1=>by
  simp only[List.drop_succ_cons,bT];have:=oQ r i;omega
theorem DJ {b:Bk} {free:Int} {h:TT} (hh:bR b free h) (h12:h.1.op=12) (h0:0<=free) (h1:free<=990000) : ∀(i:Nat) (x y:TT),(i:Int)<=h.1.b->bR b (free+i) x->rO h i x=J y->bR b free y
 | 0,x,y,_,hx,he=>by
  injection he with he;subst he;simpa using hx
 | i+1,x,y,hi,hx,he=>by
  have a2:h.1.b<=4:=by
   have a0:=hh.okt.ok;simp only[eN,Bool.and_eq_true] at a0;have a1:=aV.1 a0.1.1;omega
  have hu:=AE (qU hh h12 (i:=i) aA) (up:=(i:Int)) aA aA;have hs:=kF (b:=b) (free:=free+i) (x:=x) (u:=i5 (eD h i) (i:Int)) aA aA (by
   have e:free+((i+1:Nat):Int)=free+i+1:=aA;rw[<-e];exact hx) hu.1
  simp only[rO] at he;split at he
  · rename_i h9
    exact DJ hh h12 h0 h1 i _ y aA (hs.2.2 h9) he
  · cases he
theorem oR {x:TT} (h12:x.1.op=12) (i:Nat):aR x.1.op x.1.b ((2*i+1:Nat):Int)=x.1.b:=by
 unfold aR;rw[if_neg aA,if_pos aA]
theorem vA {b:Bk} {free:Int} {h y:TT} (hh:bR b free h) (h12:h.1.op=12) (h0:0<=free) (h1:free<=990000) (he:qH h=J y):bR b free y:=by
 obtain⟨p1,p2,p3,p4,p5⟩:=hI hh.okt h12;have hk:=hh.kid (kY (x:=h) (i:=2*h.1.a.toNat+1) aA);rw[oR h12] at hk;unfold qH at he;exact DJ hh h12 h0 h1 _ _ y aA (by rw[show ((h.1.b.toNat:Nat):Int)=h.1.b from by omega];exact hk) he
theorem iU {n:Nd} {i:Int} (h:(n.op=5/\i=1)\/(n.op=7/\i=2)):aR n.op n.b i=1:=by
 unfold aR;rw[if_pos aA]
theorem eI {n:Nd} {i:Int} (h:(n.op=5/\i=0)\/(n.op=7/\i<2)\/n.op=11):aR n.op n.b i=0:=by
 unfold aR;rw[if_neg aA,if_neg aA]
theorem sV {b:Bk} {free:Int} {x u:TT} (h0:0<=free) (h1:free<=990000) (hx:bR b (free+1) x) (hu:bR b free u) (he:(cH x u).2=0):bR b free (cH x u).1:=(kF h0 aA hx hu).2.2 he
theorem qI {b:Bk} {cv:List (List Nd)} {f:TT} (hf:bR b (cv.length:Int) f) (h1:f.1.op=1):0<=f.1.a/\f.1.a.toNat<cv.length/\f.1.a<=1048576:=by
 have h2:=(mI hf.low).1 h1;rw[decide_eq_false_iff_not] at h2;have h3:=hf.okt.ok;simp only[eN,Bool.and_eq_true] at h3;have h4:=fM h3.1.1;omega
theorem sZ {b:Bk} {cv:List (List Nd)} (hc:fR b cv) {a:Int} (h0:0<=a) (h1:a.toNat<cv.length) (h2:0<(jG cv a).length) : ∃x,jG cv a=aW x/\cP (jG cv a)=x/\bR b ((cv.length-1-a.toNat:Nat):Int) x/\bR b (cv.length:Int) (i5 x (a+1))/\l8 (aW x) (a+1) 0=(aW (i5 x (a+1)),0):=by
 unfold jG at h2 ⊢;have a0:=hc.few;rcases hc.vals (cv.length-1-a.toNat) aA with h | ⟨x,hx,hfx⟩
 · rw[h] at h2;cases h2
 have hu:=AE hfx (up:=a+1) aA aA;have e:((cv.length-1-a.toNat:Nat):Int)+(a+1)=(cv.length:Int):=aA;rw[e] at hu;exact⟨x,hx,by rw[hx];exact uZ hfx,hfx,hu.1,hu.2⟩
theorem lO {b:Bk} (hr:bP b=0) {free:Int} (h0:0<=free) {f:TT} (hf:bR b free f) (h8:f.1.op=8):0<=f.1.a/\f.1.a<(b.entries.length:Int)/\(bK b f.1.a).body=aW (cP (bK b f.1.a).body)/\bR b free (cP (bK b f.1.a).body):=by
 have hn:=hf.nod f.1 (by simp[aW]);unfold cN at hn;rw[if_neg aA,if_pos h8,Bool.and_eq_true,decide_eq_true_eq,beq_iff_eq] at hn;have h3:=hf.okt.ok;simp only[eN,Bool.and_eq_true] at h3;have h4:=fM h3.1.1;obtain⟨e,a0⟩:=EP (LG hr h4.1 hn.1 hn.2);exact⟨h4.1,hn.1,e,a0.mono h0⟩
theorem nL {b:Bk} {cv:List (List Nd)} (hr:bP b=0) (hc:fR b cv) {f y:Fc} (hf:eH b (cv.length:Int) f) (hrd:bW b cv f=true) (h:jD b cv f=J y):eH b (cv.length:Int) y/\dK y<=4096:=by
 have a3:=hc.few;unfold bW at hrd;unfold jD at h;by_cases c5:f.1.1.op=5
 · rw[if_pos c5] at hrd h;rw[decide_eq_true_eq] at hrd;obtain⟨p,q,hk⟩:=pV hf.head.okt (.inr (.inl c5));have hq:=hf.head.kid (i:=1) (by rw[hk];rfl);rw[dI (i:=1) (by rw[hk];rfl)] at h;have a1:aR f.1.1.op f.1.1.b ((1:Nat):Int)=1:=iU (.inl ⟨c5,rfl⟩);rw[a1] at hq;have ha:=hf.args _ (gS hrd (default,[],.nil));split at h
   · rename_i h9
     obtain⟨g1,_,g3,_⟩:=j7 (sV aA aA hq ha h9) (fun a ha=>hf.args a (List.mem_of_mem_drop ha)) h;exact⟨g1,g3⟩
   cases h
 rw[if_neg c5] at hrd h;by_cases c7:f.1.1.op=7
 · rw[if_pos c7] at h;obtain⟨p,q,r,hk⟩:=lU hf.head.okt c7;have hq:=hf.head.kid0 (i:=1) (by rw[hk];rfl) (eI (.inr (.inl ⟨c7,by decide⟩)));have hs:=hf.head.kid (i:=2) (by rw[hk];rfl);have a1:aR f.1.1.op f.1.1.b ((2:Nat):Int)=1:=iU (.inr ⟨c7,rfl⟩);rw[a1] at hs;rw[dI (i:=1) (by rw[hk];rfl),dI (i:=2) (by rw[hk];rfl)] at h;split at h
   · rename_i h9
     obtain⟨g1,_,g3,_⟩:=j7 (sV aA aA hs hq h9) hf.args h;exact⟨g1,g3⟩
   cases h
 rw[if_neg c7] at h;by_cases c8:f.1.1.op=8
 · rw[if_neg aA,if_pos c8] at h;obtain⟨_,_,_,a0⟩:=lO hr aA hf.head c8;obtain⟨g1,_,g3,_⟩:=j7 a0 hf.args h;exact⟨g1,g3⟩
 rw[if_neg aA] at hrd;by_cases c1:f.1.1.op=1
 · rw[if_pos c1] at hrd h;rw[decide_eq_true_eq] at hrd;obtain⟨v1,v2,_⟩:=qI hf.head c1;obtain⟨x,_,ex,_,a0,_⟩:=sZ hc v1 v2 hrd;rw[ex] at h;obtain⟨g1,_,g3,_⟩:=j7 a0 hf.args h;exact⟨g1,g3⟩
 rw[if_neg c1,if_neg c8] at h;rw[if_neg c1] at hrd;by_cases c11:f.1.1.op=11
 · rw[if_pos c11] at hrd h;obtain⟨p,q,br,hk,a5⟩:=eK hf.head.okt c11;have hq:=hf.head.kid0 (i:=1) (by rw[hk];rfl) (eI (.inr (.inr c11)));rw[dI (i:=1) (by rw[hk];rfl)] at hrd h;unfold eS at hrd;simp only[Bool.and_eq_true,beq_iff_eq,decide_eq_true_eq] at hrd;obtain⟨m1,_,m3,_⟩:=hrd;have hs:=kI hq;have a4:=yV hs.head.okt m1;have a2:=hf.head.kid0 (kY (x:=f.1) (i:=2+(bU q).1.1.b.toNat) (by rw[hk];simp only[List.length_cons];omega)) (eI (.inr (.inr c11)));obtain⟨g1,_,g3,_⟩:=j7 a2 (fun a ha=>by
    rcases List.mem_append.1 ha with ha | ha
    · exact hs.args a (List.mem_of_mem_drop ha)
    exact hf.args a ha) h
   exact⟨g1,g3⟩
 rw[if_neg c11] at hrd h;by_cases c12:f.1.1.op=12
 · cases hu:qH f.1 with
   | none=>rw[hu] at h;cases h
   | some z =>
    rw[hu] at h;obtain⟨g1,_,g3,_⟩:=j7 (vA hf.head c12 aA aA hu) hf.args h;exact⟨g1,g3⟩
 rw[if_neg c12] at hrd;cases hrd
theorem iM {b:Bk} {free:Int} {f:Fc} (hf:eH b free f) {p:TT} (h:cS f=J p):bR b free p/\bI p<dK f:=by
 unfold cS at h;split at h
 · rename_i c11
   injection h with h;subst h;obtain⟨p,q,br,hk,a0⟩:=eK hf.head.okt c11;have hq:=hf.head.kid0 (i:=1) (by rw[hk];rfl) (eI (.inr (.inr c11)));rw[dI (i:=1) (by rw[hk];rfl)];refine⟨hq,?_⟩;have hm:q ∈ cI f.1.2.2:=by rw[hk];simp
   have:=rN hm;have e:bI f.1=1+f.1.2.1.length+(row f.1.2.2).length:=dL f.1.1 f.1.2.1 f.1.2.2;unfold dK;omega
 split at h
 · split at h
   · rename_i hl
     injection h with h;subst h;have hm:=gS hl (default,[],.nil);refine⟨hf.args _ hm,?_⟩;have:=nG hm;unfold dK;omega
   cases h
 cases h
theorem lH {p q:List Nd} {n1 n2:Nd} {a1 a2:List Nd} {k1 k2 r:Fo} (t:TT):fN (.cons p n1 a1 k1 (.cons q n2 a2 k2 r)) t=.cons p n1 a1 k1 (.cons q t.1 t.2.1 t.2.2 r):=rfl
theorem i9 {b:Bk} {free:Int} {f:Fc} (hf:eH b free f) {p p':TT} (h:cS f=J p) (hp:bR b free p') (hs:dK f+bI p'<=4096+bI p):eH b free (dU f p')/\dK (dU f p')+bI p=dK f+bI p':=by
 unfold cS at h;unfold dU;split at h
 rotate_left
 · split at h
   · rename_i c11 c12
     rw[if_neg c11];split at h
     · rename_i hl
       injection h with h;subst h;have e:=qL f.2 (dA f.1).toNat p' (default,[],.nil) hl;refine⟨⟨hf.head,hf.ne,fun y hy => ?_⟩,?_⟩
       · rcases List.mem_or_eq_of_mem_set hy with hy | rfl
         · exact hf.args y hy
         exact hp
       unfold dK;simp only;omega
     cases h
   cases h
 rename_i c11
 rw[if_pos c11];injection h with h;subst h;obtain⟨⟨n,a,k⟩,args⟩:=f;have hw:=hf.head.okt.wf;obtain⟨u,q,br,hk,a6⟩:=eK hf.head.okt c11;have a3:eQ (n,a,k) 1=q:=dI (i:=1) (by rw[hk];rfl);simp only at a3 hw c11;rw[a3] at hs ⊢
 match k,hk with
 | .cons pr n1 a1 k1 (.cons qr n2 a2 k2 r),hk =>
  simp only[cI,List.cons.injEq] at hk;obtain⟨_,rfl,_⟩:=hk;have a4:bI (n,a,fN (.cons pr n1 a1 k1 (.cons qr n2 a2 k2 r)) p')+bI (n2,a2,k2)=bI (n,a,.cons pr n1 a1 k1 (.cons qr n2 a2 k2 r))+bI p':=by
   have e1:bI (n,a,fN (.cons pr n1 a1 k1 (.cons qr n2 a2 k2 r)) p')=1+a.length+(pr.length+bI (n1,a1,k1)+(qr.length+bI p'+(row r).length)):=by
    rw[lH,dL,e7,e7]
   have e2:bI (n,a,.cons pr n1 a1 k1 (.cons qr n2 a2 k2 r))=1+a.length+(pr.length+bI (n1,a1,k1)+(qr.length+bI (n2,a2,k2)+(row r).length)):=by
    rw[dL,e7,e7]
   rw[e1,e2];omega
  have a5:dK ((n,a,.cons pr n1 a1 k1 (.cons qr n2 a2 k2 r)),args)=bI (n,a,.cons pr n1 a1 k1 (.cons qr n2 a2 k2 r))+bT args:=rfl;have a0:dK ((n,a,fN (.cons pr n1 a1 k1 (.cons qr n2 a2 k2 r)) p'),args)=bI (n,a,fN (.cons pr n1 a1 k1 (.cons qr n2 a2 k2 r)) p')+bT args:=rfl;refine⟨⟨⟨⟨hf.head.okt.ok,hf.head.okt.at_,?_⟩,?_,?_,?_⟩,hf.ne,hf.args⟩,?_⟩
  · simp only at hw ⊢;rw[lH];cases hd:ds n with
    | nil=>rw[hd] at hw;exact hw.elim
    | cons d1 dl =>
     cases dl with
     | nil=>rw[hd] at hw;exact hw.2.2.2.2.elim
     | cons d2 dl =>
      rw[hd] at hw;obtain⟨w1,w2,w3,w4,w5,w6,w7,w8,w9⟩:=hw;exact⟨w1,w2,w3,w4,w5,hp.okt.ok,hp.okt.at_,hp.okt.wf,w9⟩
  · show bI (n,a,fN (.cons pr n1 a1 k1 (.cons qr n2 a2 k2 r)) p')<=4096;omega
  · have hl:=(mI hf.head.low).2;simp only at hl ⊢;rw[lH];unfold oI;rw[show decide (n.op=1)=false from decide_eq_false aA,Bool.false_and,Bool.false_or];rw[eJ,eJ,Bool.or_eq_false_iff,Bool.or_eq_false_iff] at hl ⊢;refine⟨hl.1,?_,hl.2.2⟩;have hz:aR n.op n.b ((0+1:Nat):Int)=0:=eI (.inr (.inr c11));rw[hz,Int.add_zero];exact hp.low
  · intro m hm;have hn:=hf.head.nod;rw[lH] at hm;simp only[aW,row,List.mem_cons,List.mem_append] at hm hn;rcases hm with hm | hm | hm | hm | hm | hm | hm | hm | hm | hm | hm
    · exact hn m (.inl hm)
    · exact hn m (.inr (.inl hm))
    · exact hn m (.inr (.inr (.inl hm)))
    · exact hn m (.inr (.inr (.inr (.inl hm))))
    · exact hn m (.inr (.inr (.inr (.inr (.inl hm)))))
    · exact hn m (.inr (.inr (.inr (.inr (.inr (.inl hm))))))
    · exact hn m (.inr (.inr (.inr (.inr (.inr (.inr (.inl hm)))))))
    · exact hp.nod m (by simp[aW,hm])
    · exact hp.nod m (by simp[aW,hm])
    · exact hp.nod m (by simp[aW,hm])
    exact hn m (by simp[hm])
  · rw[a5,a0];omega
end Go.Proofs.YtjoddliplahgkaaGreat
